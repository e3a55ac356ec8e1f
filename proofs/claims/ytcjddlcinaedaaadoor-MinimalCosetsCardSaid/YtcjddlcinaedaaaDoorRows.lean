/-
  NARROWER THAN 'FOR EVERY INPUT', by the rows' own cells (each row's printed sentence says how): BufferKeeps: laid · BufferOwn: laid · BufferPlays: laid · MinimalGenerators: laid · MinimalOf: laid · MinimalCosets: laid · MinimalZeros: laid · MinimalWhole: laid · MinimalDivides: laid · ModelPlays: laid · ModelForgets: laid · BinRing: laid.
  DERIVED. THE GIVEN ROWS OF THIS SEAT. 12 by the template 'for every input the law returns true; each argument reads behind the call as it read before'; 0 by the template 'total and deterministic' (their statements: YtcjddlcinaedaaaDoorTotals.lean).
  GIVEN WITH THE SEED: the statements are not yours to turn. If you find one false, say at which input.
  Laid BY PROGRAM, IN A SANDBOX (cutbox-rows.mjs): the forced cells as the released guide's own fill.sh prints them over the translation b770edf6ba68e4b6… (all of the seat's roots in one cut). By AI agents, Wed Nov 11 2026. No macro, syntax, notation, axiom, sorry.
-/
import Derived.Test.YtcjddlcinaedaaaDoorChecked
import GoSem.Claim
import GoSem.ClaimJoined
import GoSem.ClaimMapViews
import Derived.JoinedTies
import Derived.KernelRfl
namespace Go.Proofs.YtcjddlcinaedaaaDoor
/- THE CELL 'sum', in the pinned program and in every row, IS THE sha256 OF THE DUMP (.gsa) THAT YtcjddlcinaedaaaDoorProg.lean LOADS. Nothing in Lean hashes anything: it is a label: what it is worth is what the hold of that sum in a sandbox is worth. -/
noncomputable def Tryd.pinned : Pinned := { name := "ytcjddlcinaedaaadoor", sum := "b770edf6ba68e4b6b22b7ecf82a76e226f0509b58ab0af81ebc5e2f518d96b35", checked := Tryd.checked }
namespace Rows
def none {H : Type} : Left H := { results := [], args := [] }

/- WHAT THE LISTED PACKAGE-LEVEL VARIABLES READ AS WHEN THE CALL BEGINS. Each datum BY PROGRAM (the guide's laid-datum.mjs) off the statement by which the dump's own 'gosem.cut.vars' lays the variable. In a bare row this is a premise. The card (YtcjddlcinaedaaaDoorCards.lean) ties it to the program's text. -/
def laid_shale_api_ErrNumber {H : Type} : DataW H := .iface "*errors.errorString" (.ptr (.agg [.lit (.string [110, 111, 32, 115, 117, 99, 104, 32, 110, 117, 109, 98, 101, 114])]))
def laid_shale_api_ErrGeometry {H : Type} : DataW H := .iface "*errors.errorString" (.ptr (.agg [.lit (.string [110, 111, 32, 115, 117, 99, 104, 32, 99, 104, 105, 112])]))
def laid_shale_api_ErrFull {H : Type} : DataW H := .iface "*errors.errorString" (.ptr (.agg [.lit (.string [110, 111, 32, 114, 111, 111, 109])]))
def laid_shale_api_ErrSize {H : Type} : DataW H := .iface "*errors.errorString" (.ptr (.agg [.lit (.string [110, 111, 32, 115, 101, 99, 116, 111, 114, 39, 115, 32, 115, 105, 122, 101])]))
def laid_shale_api_ErrField {H : Type} : DataW H := .iface "*errors.errorString" (.ptr (.agg [.lit (.string [110, 111, 32, 115, 117, 99, 104, 32, 102, 105, 101, 108, 100])]))
def laid_shale_api_ErrZero {H : Type} : DataW H := .iface "*errors.errorString" (.ptr (.agg [.lit (.string [122, 101, 114, 111, 32, 104, 97, 115, 32, 110, 111, 110, 101])]))
def laid_shale_api_ErrLong {H : Type} : DataW H := .iface "*errors.errorString" (.ptr (.agg [.lit (.string [116, 111, 111, 32, 108, 111, 110, 103])]))
def laid_shale_api_ErrCode {H : Type} : DataW H := .iface "*errors.errorString" (.ptr (.agg [.lit (.string [110, 111, 32, 115, 117, 99, 104, 32, 99, 111, 100, 101])]))
def laid_shale_api_ErrMany {H : Type} : DataW H := .iface "*errors.errorString" (.ptr (.agg [.lit (.string [109, 111, 114, 101, 32, 105, 115, 32, 97, 109, 105, 115, 115, 32, 116, 104, 97, 110, 32, 99, 97, 110, 32, 98, 101, 32, 109, 101, 110, 100, 101, 100])]))
def laid_shale_api_ErrRecord {H : Type} : DataW H := .iface "*errors.errorString" (.ptr (.agg [.lit (.string [110, 111, 32, 114, 101, 99, 111, 114, 100])]))
def laid_shale_api_ErrDead {H : Type} : DataW H := .iface "*errors.errorString" (.ptr (.agg [.lit (.string [116, 104, 101, 32, 112, 111, 119, 101, 114, 32, 105, 115, 32, 111, 102, 102])]))
def laid_shale_api_ErrOrder {H : Type} : DataW H := .iface "*errors.errorString" (.ptr (.agg [.lit (.string [105, 116, 32, 100, 111, 101, 115, 32, 110, 111, 116, 32, 99, 111, 109, 101, 32, 104, 101, 114, 101])]))
def laid_shale_api_ErrFailed {H : Type} : DataW H := .iface "*errors.errorString" (.ptr (.agg [.lit (.string [116, 104, 101, 32, 99, 104, 105, 112, 32, 102, 97, 105, 108, 101, 100])]))
def laid_shale_api_ErrBad {H : Type} : DataW H := .iface "*errors.errorString" (.ptr (.agg [.lit (.string [116, 104, 101, 32, 98, 108, 111, 99, 107, 32, 105, 115, 32, 98, 97, 100])]))
def laid_shale_api_ErrPage {H : Type} : DataW H := .iface "*errors.errorString" (.ptr (.agg [.lit (.string [116, 104, 101, 32, 112, 97, 103, 101, 32, 99, 97, 110, 110, 111, 116, 32, 98, 101, 32, 114, 101, 97, 100])]))
def laid_shale_api_ErrGone {H : Type} : DataW H := .iface "*errors.errorString" (.ptr (.agg [.lit (.string [105, 116, 32, 105, 115, 32, 110, 111, 116, 32, 116, 104, 101, 114, 101])]))
def laid_shale_api_ErrReadOnly {H : Type} : DataW H := .iface "*errors.errorString" (.ptr (.agg [.lit (.string [105, 116, 32, 99, 97, 110, 32, 111, 110, 108, 121, 32, 98, 101, 32, 114, 101, 97, 100])]))
def laid_shale_api_ErrStep {H : Type} : DataW H := .iface "*errors.errorString" (.ptr (.agg [.lit (.string [110, 111, 32, 115, 117, 99, 104, 32, 115, 116, 101, 112])]))
def laid_shale_api_ErrMount {H : Type} : DataW H := .iface "*errors.errorString" (.ptr (.agg [.lit (.string [105, 116, 32, 105, 115, 32, 110, 111, 116, 32, 109, 111, 117, 110, 116, 101, 100])]))

/-- 'shalelaw19.BufferKeeps': WHATEVER THE INPUT: true; the input reads as it did. -/
def bufferKeepsSpec : ChangeSpec := { name := "bufferKeeps", fn := fun _ => fun
  | [d1, d2] => { results := [.lit (.bool true)], args := [d1, d2] }
  | _ => none }
def bufferKeepsRow : OpenClaim := { program := "ytcjddlcinaedaaadoor", sum := "b770edf6ba68e4b6b22b7ecf82a76e226f0509b58ab0af81ebc5e2f518d96b35", func := "shale/shalelaw19.BufferKeeps", spec := "bufferKeeps", unfollowed := true, recurses := true, named := ["shale/api.ErrFull", "shale/api.ErrNumber", "shale/api.ErrSize", "shale/api.ErrGeometry"], apart := false, laid := [("shale/api.ErrNumber", laid_shale_api_ErrNumber), ("shale/api.ErrGeometry", laid_shale_api_ErrGeometry), ("shale/api.ErrFull", laid_shale_api_ErrFull), ("shale/api.ErrSize", laid_shale_api_ErrSize)] }
def BufferKeepsSaid : Prop := bufferKeepsRow.holds Tryd.pinned (OpenSpec.ofChange bufferKeepsSpec)

/-- ITS FALSE NEIGHBOUR: 'it returns false'. Refute it at one input. -/
def bufferKeepsWrong : ChangeSpec := { name := "bufferKeeps", fn := fun _ => fun
  | [d1, d2] => { results := [.lit (.bool false)], args := [d1, d2] }
  | _ => none }
def BufferKeepsWrongFalsely : Prop := bufferKeepsRow.holds Tryd.pinned (OpenSpec.ofChange bufferKeepsWrong)

/-- 'shalelaw19.BufferOwn': WHATEVER THE INPUT: true; the input reads as it did. -/
def bufferOwnSpec : ChangeSpec := { name := "bufferOwn", fn := fun _ => fun
  | [d1, d2] => { results := [.lit (.bool true)], args := [d1, d2] }
  | _ => none }
def bufferOwnRow : OpenClaim := { program := "ytcjddlcinaedaaadoor", sum := "b770edf6ba68e4b6b22b7ecf82a76e226f0509b58ab0af81ebc5e2f518d96b35", func := "shale/shalelaw19.BufferOwn", spec := "bufferOwn", unfollowed := true, recurses := true, named := ["shale/api.ErrFull", "shale/api.ErrNumber", "shale/api.ErrSize", "shale/api.ErrGeometry"], apart := false, laid := [("shale/api.ErrNumber", laid_shale_api_ErrNumber), ("shale/api.ErrGeometry", laid_shale_api_ErrGeometry), ("shale/api.ErrFull", laid_shale_api_ErrFull), ("shale/api.ErrSize", laid_shale_api_ErrSize)] }
def BufferOwnSaid : Prop := bufferOwnRow.holds Tryd.pinned (OpenSpec.ofChange bufferOwnSpec)

/-- ITS FALSE NEIGHBOUR: 'it returns false'. Refute it at one input. -/
def bufferOwnWrong : ChangeSpec := { name := "bufferOwn", fn := fun _ => fun
  | [d1, d2] => { results := [.lit (.bool false)], args := [d1, d2] }
  | _ => none }
def BufferOwnWrongFalsely : Prop := bufferOwnRow.holds Tryd.pinned (OpenSpec.ofChange bufferOwnWrong)

/-- 'shalelaw19.BufferPlays': WHATEVER THE INPUT: true; the input reads as it did. -/
def bufferPlaysSpec : ChangeSpec := { name := "bufferPlays", fn := fun _ => fun
  | [d1, d2, d3, d4, d5, d6] => { results := [.lit (.bool true)], args := [d1, d2, d3, d4, d5, d6] }
  | _ => none }
def bufferPlaysRow : OpenClaim := { program := "ytcjddlcinaedaaadoor", sum := "b770edf6ba68e4b6b22b7ecf82a76e226f0509b58ab0af81ebc5e2f518d96b35", func := "shale/shalelaw19.BufferPlays", spec := "bufferPlays", unfollowed := true, recurses := true, named := ["shale/api.ErrGeometry", "shale/api.ErrFull", "shale/api.ErrNumber", "shale/api.ErrSize", "shale/api.ErrField", "shale/api.ErrZero", "shale/api.ErrLong", "shale/api.ErrCode", "shale/api.ErrMany", "shale/api.ErrRecord", "shale/api.ErrDead", "shale/api.ErrOrder", "shale/api.ErrFailed", "shale/api.ErrBad", "shale/api.ErrPage", "shale/api.ErrGone", "shale/api.ErrReadOnly", "shale/api.ErrStep", "shale/api.ErrMount"], apart := false, laid := [("shale/api.ErrField", laid_shale_api_ErrField), ("shale/api.ErrNumber", laid_shale_api_ErrNumber), ("shale/api.ErrZero", laid_shale_api_ErrZero), ("shale/api.ErrLong", laid_shale_api_ErrLong), ("shale/api.ErrCode", laid_shale_api_ErrCode), ("shale/api.ErrMany", laid_shale_api_ErrMany), ("shale/api.ErrRecord", laid_shale_api_ErrRecord), ("shale/api.ErrGeometry", laid_shale_api_ErrGeometry), ("shale/api.ErrDead", laid_shale_api_ErrDead), ("shale/api.ErrOrder", laid_shale_api_ErrOrder), ("shale/api.ErrFailed", laid_shale_api_ErrFailed), ("shale/api.ErrBad", laid_shale_api_ErrBad), ("shale/api.ErrPage", laid_shale_api_ErrPage), ("shale/api.ErrFull", laid_shale_api_ErrFull), ("shale/api.ErrGone", laid_shale_api_ErrGone), ("shale/api.ErrSize", laid_shale_api_ErrSize), ("shale/api.ErrReadOnly", laid_shale_api_ErrReadOnly), ("shale/api.ErrStep", laid_shale_api_ErrStep), ("shale/api.ErrMount", laid_shale_api_ErrMount)] }
def BufferPlaysSaid : Prop := bufferPlaysRow.holds Tryd.pinned (OpenSpec.ofChange bufferPlaysSpec)

/-- ITS FALSE NEIGHBOUR: 'it returns false'. Refute it at one input. -/
def bufferPlaysWrong : ChangeSpec := { name := "bufferPlays", fn := fun _ => fun
  | [d1, d2, d3, d4, d5, d6] => { results := [.lit (.bool false)], args := [d1, d2, d3, d4, d5, d6] }
  | _ => none }
def BufferPlaysWrongFalsely : Prop := bufferPlaysRow.holds Tryd.pinned (OpenSpec.ofChange bufferPlaysWrong)

/-- 'shalelaw5.MinimalGenerators': WHATEVER THE INPUT: true; the input reads as it did. -/
def minimalGeneratorsSpec : ChangeSpec := { name := "minimalGenerators", fn := fun _ => fun
  | [d1, d2] => { results := [.lit (.bool true)], args := [d1, d2] }
  | _ => none }
def minimalGeneratorsRow : OpenClaim := { program := "ytcjddlcinaedaaadoor", sum := "b770edf6ba68e4b6b22b7ecf82a76e226f0509b58ab0af81ebc5e2f518d96b35", func := "shale/shalelaw5.MinimalGenerators", spec := "minimalGenerators", unfollowed := true, recurses := true, named := ["shale/api.ErrCode", "shale/api.ErrField", "shale/api.ErrNumber", "shale/api.ErrLong", "shale/api.ErrZero", "shale/api.ErrMany", "shale/api.ErrRecord", "shale/api.ErrGeometry", "shale/api.ErrDead", "shale/api.ErrOrder", "shale/api.ErrFailed", "shale/api.ErrBad", "shale/api.ErrPage", "shale/api.ErrFull", "shale/api.ErrGone", "shale/api.ErrSize", "shale/api.ErrReadOnly", "shale/api.ErrStep", "shale/api.ErrMount"], apart := false, laid := [("shale/api.ErrField", laid_shale_api_ErrField), ("shale/api.ErrNumber", laid_shale_api_ErrNumber), ("shale/api.ErrZero", laid_shale_api_ErrZero), ("shale/api.ErrLong", laid_shale_api_ErrLong), ("shale/api.ErrCode", laid_shale_api_ErrCode), ("shale/api.ErrMany", laid_shale_api_ErrMany), ("shale/api.ErrRecord", laid_shale_api_ErrRecord), ("shale/api.ErrGeometry", laid_shale_api_ErrGeometry), ("shale/api.ErrDead", laid_shale_api_ErrDead), ("shale/api.ErrOrder", laid_shale_api_ErrOrder), ("shale/api.ErrFailed", laid_shale_api_ErrFailed), ("shale/api.ErrBad", laid_shale_api_ErrBad), ("shale/api.ErrPage", laid_shale_api_ErrPage), ("shale/api.ErrFull", laid_shale_api_ErrFull), ("shale/api.ErrGone", laid_shale_api_ErrGone), ("shale/api.ErrSize", laid_shale_api_ErrSize), ("shale/api.ErrReadOnly", laid_shale_api_ErrReadOnly), ("shale/api.ErrStep", laid_shale_api_ErrStep), ("shale/api.ErrMount", laid_shale_api_ErrMount)] }
def MinimalGeneratorsSaid : Prop := minimalGeneratorsRow.holds Tryd.pinned (OpenSpec.ofChange minimalGeneratorsSpec)

/-- ITS FALSE NEIGHBOUR: 'it returns false'. Refute it at one input. -/
def minimalGeneratorsWrong : ChangeSpec := { name := "minimalGenerators", fn := fun _ => fun
  | [d1, d2] => { results := [.lit (.bool false)], args := [d1, d2] }
  | _ => none }
def MinimalGeneratorsWrongFalsely : Prop := minimalGeneratorsRow.holds Tryd.pinned (OpenSpec.ofChange minimalGeneratorsWrong)

/-- 'shalelaw5.MinimalOf': WHATEVER THE INPUT: true; the input reads as it did. -/
def minimalOfSpec : ChangeSpec := { name := "minimalOf", fn := fun _ => fun
  | [d1, d2, d3, d4] => { results := [.lit (.bool true)], args := [d1, d2, d3, d4] }
  | _ => none }
def minimalOfRow : OpenClaim := { program := "ytcjddlcinaedaaadoor", sum := "b770edf6ba68e4b6b22b7ecf82a76e226f0509b58ab0af81ebc5e2f518d96b35", func := "shale/shalelaw5.MinimalOf", spec := "minimalOf", unfollowed := true, recurses := true, named := ["shale/api.ErrCode", "shale/api.ErrField", "shale/api.ErrNumber", "shale/api.ErrLong"], apart := false, laid := [("shale/api.ErrField", laid_shale_api_ErrField), ("shale/api.ErrNumber", laid_shale_api_ErrNumber), ("shale/api.ErrLong", laid_shale_api_ErrLong), ("shale/api.ErrCode", laid_shale_api_ErrCode)] }
def MinimalOfSaid : Prop := minimalOfRow.holds Tryd.pinned (OpenSpec.ofChange minimalOfSpec)

/-- ITS FALSE NEIGHBOUR: 'it returns false'. Refute it at one input. -/
def minimalOfWrong : ChangeSpec := { name := "minimalOf", fn := fun _ => fun
  | [d1, d2, d3, d4] => { results := [.lit (.bool false)], args := [d1, d2, d3, d4] }
  | _ => none }
def MinimalOfWrongFalsely : Prop := minimalOfRow.holds Tryd.pinned (OpenSpec.ofChange minimalOfWrong)

/-- 'shalelaw5.MinimalCosets': WHATEVER THE INPUT: true; the input reads as it did. -/
def minimalCosetsSpec : ChangeSpec := { name := "minimalCosets", fn := fun _ => fun
  | [d1, d2] => { results := [.lit (.bool true)], args := [d1, d2] }
  | _ => none }
def minimalCosetsRow : OpenClaim := { program := "ytcjddlcinaedaaadoor", sum := "b770edf6ba68e4b6b22b7ecf82a76e226f0509b58ab0af81ebc5e2f518d96b35", func := "shale/shalelaw5.MinimalCosets", spec := "minimalCosets", unfollowed := true, recurses := true, named := ["shale/api.ErrField", "shale/api.ErrCode", "shale/api.ErrNumber", "shale/api.ErrLong"], apart := false, laid := [("shale/api.ErrField", laid_shale_api_ErrField), ("shale/api.ErrNumber", laid_shale_api_ErrNumber), ("shale/api.ErrLong", laid_shale_api_ErrLong), ("shale/api.ErrCode", laid_shale_api_ErrCode)] }
def MinimalCosetsSaid : Prop := minimalCosetsRow.holds Tryd.pinned (OpenSpec.ofChange minimalCosetsSpec)

/-- ITS FALSE NEIGHBOUR: 'it returns false'. Refute it at one input. -/
def minimalCosetsWrong : ChangeSpec := { name := "minimalCosets", fn := fun _ => fun
  | [d1, d2] => { results := [.lit (.bool false)], args := [d1, d2] }
  | _ => none }
def MinimalCosetsWrongFalsely : Prop := minimalCosetsRow.holds Tryd.pinned (OpenSpec.ofChange minimalCosetsWrong)

/-- 'shalelaw5.MinimalZeros': WHATEVER THE INPUT: true; the input reads as it did. -/
def minimalZerosSpec : ChangeSpec := { name := "minimalZeros", fn := fun _ => fun
  | [d1, d2] => { results := [.lit (.bool true)], args := [d1, d2] }
  | _ => none }
def minimalZerosRow : OpenClaim := { program := "ytcjddlcinaedaaadoor", sum := "b770edf6ba68e4b6b22b7ecf82a76e226f0509b58ab0af81ebc5e2f518d96b35", func := "shale/shalelaw5.MinimalZeros", spec := "minimalZeros", unfollowed := true, recurses := true, named := ["shale/api.ErrCode", "shale/api.ErrField", "shale/api.ErrNumber", "shale/api.ErrLong", "shale/api.ErrZero"], apart := false, laid := [("shale/api.ErrField", laid_shale_api_ErrField), ("shale/api.ErrNumber", laid_shale_api_ErrNumber), ("shale/api.ErrZero", laid_shale_api_ErrZero), ("shale/api.ErrLong", laid_shale_api_ErrLong), ("shale/api.ErrCode", laid_shale_api_ErrCode)] }
def MinimalZerosSaid : Prop := minimalZerosRow.holds Tryd.pinned (OpenSpec.ofChange minimalZerosSpec)

/-- ITS FALSE NEIGHBOUR: 'it returns false'. Refute it at one input. -/
def minimalZerosWrong : ChangeSpec := { name := "minimalZeros", fn := fun _ => fun
  | [d1, d2] => { results := [.lit (.bool false)], args := [d1, d2] }
  | _ => none }
def MinimalZerosWrongFalsely : Prop := minimalZerosRow.holds Tryd.pinned (OpenSpec.ofChange minimalZerosWrong)

/-- 'shalelaw5.MinimalWhole': WHATEVER THE INPUT: true; the input reads as it did. -/
def minimalWholeSpec : ChangeSpec := { name := "minimalWhole", fn := fun _ => fun
  | [d] => { results := [.lit (.bool true)], args := [d] }
  | _ => none }
def minimalWholeRow : OpenClaim := { program := "ytcjddlcinaedaaadoor", sum := "b770edf6ba68e4b6b22b7ecf82a76e226f0509b58ab0af81ebc5e2f518d96b35", func := "shale/shalelaw5.MinimalWhole", spec := "minimalWhole", unfollowed := true, recurses := true, named := ["shale/api.ErrCode", "shale/api.ErrField", "shale/api.ErrNumber", "shale/api.ErrLong"], apart := false, laid := [("shale/api.ErrField", laid_shale_api_ErrField), ("shale/api.ErrNumber", laid_shale_api_ErrNumber), ("shale/api.ErrLong", laid_shale_api_ErrLong), ("shale/api.ErrCode", laid_shale_api_ErrCode)] }
def MinimalWholeSaid : Prop := minimalWholeRow.holds Tryd.pinned (OpenSpec.ofChange minimalWholeSpec)

/-- ITS FALSE NEIGHBOUR: 'it returns false'. Refute it at one input. -/
def minimalWholeWrong : ChangeSpec := { name := "minimalWhole", fn := fun _ => fun
  | [d] => { results := [.lit (.bool false)], args := [d] }
  | _ => none }
def MinimalWholeWrongFalsely : Prop := minimalWholeRow.holds Tryd.pinned (OpenSpec.ofChange minimalWholeWrong)

/-- 'shalelaw5.MinimalDivides': WHATEVER THE INPUT: true; the input reads as it did. -/
def minimalDividesSpec : ChangeSpec := { name := "minimalDivides", fn := fun _ => fun
  | [d1, d2] => { results := [.lit (.bool true)], args := [d1, d2] }
  | _ => none }
def minimalDividesRow : OpenClaim := { program := "ytcjddlcinaedaaadoor", sum := "b770edf6ba68e4b6b22b7ecf82a76e226f0509b58ab0af81ebc5e2f518d96b35", func := "shale/shalelaw5.MinimalDivides", spec := "minimalDivides", unfollowed := true, recurses := true, named := ["shale/api.ErrCode", "shale/api.ErrField", "shale/api.ErrNumber", "shale/api.ErrLong", "shale/api.ErrZero"], apart := false, laid := [("shale/api.ErrField", laid_shale_api_ErrField), ("shale/api.ErrNumber", laid_shale_api_ErrNumber), ("shale/api.ErrZero", laid_shale_api_ErrZero), ("shale/api.ErrLong", laid_shale_api_ErrLong), ("shale/api.ErrCode", laid_shale_api_ErrCode)] }
def MinimalDividesSaid : Prop := minimalDividesRow.holds Tryd.pinned (OpenSpec.ofChange minimalDividesSpec)

/-- ITS FALSE NEIGHBOUR: 'it returns false'. Refute it at one input. -/
def minimalDividesWrong : ChangeSpec := { name := "minimalDivides", fn := fun _ => fun
  | [d1, d2] => { results := [.lit (.bool false)], args := [d1, d2] }
  | _ => none }
def MinimalDividesWrongFalsely : Prop := minimalDividesRow.holds Tryd.pinned (OpenSpec.ofChange minimalDividesWrong)

/-- 'shalelaw26.ModelPlays': WHATEVER THE INPUT: true; the input reads as it did. -/
def modelPlaysSpec : ChangeSpec := { name := "modelPlays", fn := fun _ => fun
  | [d1, d2, d3, d4, d5, d6] => { results := [.lit (.bool true)], args := [d1, d2, d3, d4, d5, d6] }
  | _ => none }
def modelPlaysRow : OpenClaim := { program := "ytcjddlcinaedaaadoor", sum := "b770edf6ba68e4b6b22b7ecf82a76e226f0509b58ab0af81ebc5e2f518d96b35", func := "shale/shalelaw26.ModelPlays", spec := "modelPlays", unfollowed := true, recurses := true, named := ["shale/api.ErrGeometry", "shale/api.ErrNumber", "shale/api.ErrSize"], apart := false, laid := [("shale/api.ErrNumber", laid_shale_api_ErrNumber), ("shale/api.ErrGeometry", laid_shale_api_ErrGeometry), ("shale/api.ErrSize", laid_shale_api_ErrSize)] }
def ModelPlaysSaid : Prop := modelPlaysRow.holds Tryd.pinned (OpenSpec.ofChange modelPlaysSpec)

/-- ITS FALSE NEIGHBOUR: 'it returns false'. Refute it at one input. -/
def modelPlaysWrong : ChangeSpec := { name := "modelPlays", fn := fun _ => fun
  | [d1, d2, d3, d4, d5, d6] => { results := [.lit (.bool false)], args := [d1, d2, d3, d4, d5, d6] }
  | _ => none }
def ModelPlaysWrongFalsely : Prop := modelPlaysRow.holds Tryd.pinned (OpenSpec.ofChange modelPlaysWrong)

/-- 'shalelaw26.ModelForgets': WHATEVER THE INPUT: true; the input reads as it did. -/
def modelForgetsSpec : ChangeSpec := { name := "modelForgets", fn := fun _ => fun
  | [d1, d2] => { results := [.lit (.bool true)], args := [d1, d2] }
  | _ => none }
def modelForgetsRow : OpenClaim := { program := "ytcjddlcinaedaaadoor", sum := "b770edf6ba68e4b6b22b7ecf82a76e226f0509b58ab0af81ebc5e2f518d96b35", func := "shale/shalelaw26.ModelForgets", spec := "modelForgets", unfollowed := true, recurses := true, named := ["shale/api.ErrGeometry", "shale/api.ErrNumber", "shale/api.ErrSize"], apart := false, laid := [("shale/api.ErrNumber", laid_shale_api_ErrNumber), ("shale/api.ErrGeometry", laid_shale_api_ErrGeometry), ("shale/api.ErrSize", laid_shale_api_ErrSize)] }
def ModelForgetsSaid : Prop := modelForgetsRow.holds Tryd.pinned (OpenSpec.ofChange modelForgetsSpec)

/-- ITS FALSE NEIGHBOUR: 'it returns false'. Refute it at one input. -/
def modelForgetsWrong : ChangeSpec := { name := "modelForgets", fn := fun _ => fun
  | [d1, d2] => { results := [.lit (.bool false)], args := [d1, d2] }
  | _ => none }
def ModelForgetsWrongFalsely : Prop := modelForgetsRow.holds Tryd.pinned (OpenSpec.ofChange modelForgetsWrong)

/-- 'shalelaw3.BinRing': WHATEVER THE INPUT: true; the input reads as it did. -/
def binRingSpec : ChangeSpec := { name := "binRing", fn := fun _ => fun
  | [d1, d2, d3] => { results := [.lit (.bool true)], args := [d1, d2, d3] }
  | _ => none }
def binRingRow : OpenClaim := { program := "ytcjddlcinaedaaadoor", sum := "b770edf6ba68e4b6b22b7ecf82a76e226f0509b58ab0af81ebc5e2f518d96b35", func := "shale/shalelaw3.BinRing", spec := "binRing", unfollowed := true, recurses := true, named := ["shale/api.ErrZero", "shale/api.ErrNumber", "shale/api.ErrLong"], apart := false, laid := [("shale/api.ErrNumber", laid_shale_api_ErrNumber), ("shale/api.ErrZero", laid_shale_api_ErrZero), ("shale/api.ErrLong", laid_shale_api_ErrLong)] }
def BinRingSaid : Prop := binRingRow.holds Tryd.pinned (OpenSpec.ofChange binRingSpec)

/-- ITS FALSE NEIGHBOUR: 'it returns false'. Refute it at one input. -/
def binRingWrong : ChangeSpec := { name := "binRing", fn := fun _ => fun
  | [d1, d2, d3] => { results := [.lit (.bool false)], args := [d1, d2, d3] }
  | _ => none }
def BinRingWrongFalsely : Prop := binRingRow.holds Tryd.pinned (OpenSpec.ofChange binRingWrong)

/- THE SECOND FORM. 'bulk': how many values and letters a reading holds, each counted each time it is reached (what is shared counts as often as it is met; a slice's spare places count too). A statement '..UptoSaid' is the law's where the arguments, and the package variables that the reading takes, are together of bulk at most 1048576: NARROWER than '..Said'. Prove '..Said' where nothing that the law and all that it calls make is longer than what came in: it says more and counts as full. Else prove '..UptoSaid'. A law counts once. -/
mutual
def uptoBulk {H : Type} : DataW H → Nat
  | .lit (.string bytes) => bytes.length + 1
  | .lit _ => 1
  | .nil => 1
  | .ptr d => uptoBulk d + 1
  | .slice elems spare => uptoBulkAll elems + uptoBulkAll spare + 1
  | .agg parts => uptoBulkAll parts + 1
  | .iface _ d => uptoBulk d + 1
  | .map entries => uptoBulkEntries entries + 1
  | .held _ => 1
def uptoBulkAll {H : Type} : List (DataW H) → Nat
  | [] => 0
  | d :: r => uptoBulk d + uptoBulkAll r
def uptoBulkEntries {H : Type} : List (Lit × DataW H) → Nat
  | [] => 0
  | x :: r => uptoBulkEntry x + uptoBulkEntries r
def uptoBulkEntry {H : Type} : Lit × DataW H → Nat
  | (.string bytes, d) => bytes.length + uptoBulk d + 1
  | (_, d) => uptoBulk d + 1
 end
def uptoSmall : (H : Type) → List (DataW H) → Bool := fun _ ds => decide (uptoBulkAll ds ≤ 1048576)
def OpenSpec.upto (s : _root_.Go.ChangeSpec) : _root_.Go.OpenSpec := { _root_.Go.OpenSpec.ofChange s with cond := some uptoSmall }

/-- 'shalelaw19.BufferKeeps', WHERE WHAT IT READS IS OF BULK AT MOST 1048576: true; the input reads as it did. -/
def bufferKeepsUptoRow : OpenClaim := { program := "ytcjddlcinaedaaadoor", sum := "b770edf6ba68e4b6b22b7ecf82a76e226f0509b58ab0af81ebc5e2f518d96b35", func := "shale/shalelaw19.BufferKeeps", spec := "bufferKeeps", unfollowed := true, recurses := true, named := ["shale/api.ErrFull", "shale/api.ErrNumber", "shale/api.ErrSize", "shale/api.ErrGeometry"], apart := false, laid := [("shale/api.ErrNumber", laid_shale_api_ErrNumber), ("shale/api.ErrGeometry", laid_shale_api_ErrGeometry), ("shale/api.ErrFull", laid_shale_api_ErrFull), ("shale/api.ErrSize", laid_shale_api_ErrSize)], narrowed := true }
def BufferKeepsUptoSaid : Prop := bufferKeepsUptoRow.holds Tryd.pinned (OpenSpec.upto bufferKeepsSpec)

/-- 'shalelaw19.BufferOwn', WHERE WHAT IT READS IS OF BULK AT MOST 1048576: true; the input reads as it did. -/
def bufferOwnUptoRow : OpenClaim := { program := "ytcjddlcinaedaaadoor", sum := "b770edf6ba68e4b6b22b7ecf82a76e226f0509b58ab0af81ebc5e2f518d96b35", func := "shale/shalelaw19.BufferOwn", spec := "bufferOwn", unfollowed := true, recurses := true, named := ["shale/api.ErrFull", "shale/api.ErrNumber", "shale/api.ErrSize", "shale/api.ErrGeometry"], apart := false, laid := [("shale/api.ErrNumber", laid_shale_api_ErrNumber), ("shale/api.ErrGeometry", laid_shale_api_ErrGeometry), ("shale/api.ErrFull", laid_shale_api_ErrFull), ("shale/api.ErrSize", laid_shale_api_ErrSize)], narrowed := true }
def BufferOwnUptoSaid : Prop := bufferOwnUptoRow.holds Tryd.pinned (OpenSpec.upto bufferOwnSpec)

/-- 'shalelaw19.BufferPlays', WHERE WHAT IT READS IS OF BULK AT MOST 1048576: true; the input reads as it did. -/
def bufferPlaysUptoRow : OpenClaim := { program := "ytcjddlcinaedaaadoor", sum := "b770edf6ba68e4b6b22b7ecf82a76e226f0509b58ab0af81ebc5e2f518d96b35", func := "shale/shalelaw19.BufferPlays", spec := "bufferPlays", unfollowed := true, recurses := true, named := ["shale/api.ErrGeometry", "shale/api.ErrFull", "shale/api.ErrNumber", "shale/api.ErrSize", "shale/api.ErrField", "shale/api.ErrZero", "shale/api.ErrLong", "shale/api.ErrCode", "shale/api.ErrMany", "shale/api.ErrRecord", "shale/api.ErrDead", "shale/api.ErrOrder", "shale/api.ErrFailed", "shale/api.ErrBad", "shale/api.ErrPage", "shale/api.ErrGone", "shale/api.ErrReadOnly", "shale/api.ErrStep", "shale/api.ErrMount"], apart := false, laid := [("shale/api.ErrField", laid_shale_api_ErrField), ("shale/api.ErrNumber", laid_shale_api_ErrNumber), ("shale/api.ErrZero", laid_shale_api_ErrZero), ("shale/api.ErrLong", laid_shale_api_ErrLong), ("shale/api.ErrCode", laid_shale_api_ErrCode), ("shale/api.ErrMany", laid_shale_api_ErrMany), ("shale/api.ErrRecord", laid_shale_api_ErrRecord), ("shale/api.ErrGeometry", laid_shale_api_ErrGeometry), ("shale/api.ErrDead", laid_shale_api_ErrDead), ("shale/api.ErrOrder", laid_shale_api_ErrOrder), ("shale/api.ErrFailed", laid_shale_api_ErrFailed), ("shale/api.ErrBad", laid_shale_api_ErrBad), ("shale/api.ErrPage", laid_shale_api_ErrPage), ("shale/api.ErrFull", laid_shale_api_ErrFull), ("shale/api.ErrGone", laid_shale_api_ErrGone), ("shale/api.ErrSize", laid_shale_api_ErrSize), ("shale/api.ErrReadOnly", laid_shale_api_ErrReadOnly), ("shale/api.ErrStep", laid_shale_api_ErrStep), ("shale/api.ErrMount", laid_shale_api_ErrMount)], narrowed := true }
def BufferPlaysUptoSaid : Prop := bufferPlaysUptoRow.holds Tryd.pinned (OpenSpec.upto bufferPlaysSpec)

/-- 'shalelaw5.MinimalGenerators', WHERE WHAT IT READS IS OF BULK AT MOST 1048576: true; the input reads as it did. -/
def minimalGeneratorsUptoRow : OpenClaim := { program := "ytcjddlcinaedaaadoor", sum := "b770edf6ba68e4b6b22b7ecf82a76e226f0509b58ab0af81ebc5e2f518d96b35", func := "shale/shalelaw5.MinimalGenerators", spec := "minimalGenerators", unfollowed := true, recurses := true, named := ["shale/api.ErrCode", "shale/api.ErrField", "shale/api.ErrNumber", "shale/api.ErrLong", "shale/api.ErrZero", "shale/api.ErrMany", "shale/api.ErrRecord", "shale/api.ErrGeometry", "shale/api.ErrDead", "shale/api.ErrOrder", "shale/api.ErrFailed", "shale/api.ErrBad", "shale/api.ErrPage", "shale/api.ErrFull", "shale/api.ErrGone", "shale/api.ErrSize", "shale/api.ErrReadOnly", "shale/api.ErrStep", "shale/api.ErrMount"], apart := false, laid := [("shale/api.ErrField", laid_shale_api_ErrField), ("shale/api.ErrNumber", laid_shale_api_ErrNumber), ("shale/api.ErrZero", laid_shale_api_ErrZero), ("shale/api.ErrLong", laid_shale_api_ErrLong), ("shale/api.ErrCode", laid_shale_api_ErrCode), ("shale/api.ErrMany", laid_shale_api_ErrMany), ("shale/api.ErrRecord", laid_shale_api_ErrRecord), ("shale/api.ErrGeometry", laid_shale_api_ErrGeometry), ("shale/api.ErrDead", laid_shale_api_ErrDead), ("shale/api.ErrOrder", laid_shale_api_ErrOrder), ("shale/api.ErrFailed", laid_shale_api_ErrFailed), ("shale/api.ErrBad", laid_shale_api_ErrBad), ("shale/api.ErrPage", laid_shale_api_ErrPage), ("shale/api.ErrFull", laid_shale_api_ErrFull), ("shale/api.ErrGone", laid_shale_api_ErrGone), ("shale/api.ErrSize", laid_shale_api_ErrSize), ("shale/api.ErrReadOnly", laid_shale_api_ErrReadOnly), ("shale/api.ErrStep", laid_shale_api_ErrStep), ("shale/api.ErrMount", laid_shale_api_ErrMount)], narrowed := true }
def MinimalGeneratorsUptoSaid : Prop := minimalGeneratorsUptoRow.holds Tryd.pinned (OpenSpec.upto minimalGeneratorsSpec)

/-- 'shalelaw5.MinimalOf', WHERE WHAT IT READS IS OF BULK AT MOST 1048576: true; the input reads as it did. -/
def minimalOfUptoRow : OpenClaim := { program := "ytcjddlcinaedaaadoor", sum := "b770edf6ba68e4b6b22b7ecf82a76e226f0509b58ab0af81ebc5e2f518d96b35", func := "shale/shalelaw5.MinimalOf", spec := "minimalOf", unfollowed := true, recurses := true, named := ["shale/api.ErrCode", "shale/api.ErrField", "shale/api.ErrNumber", "shale/api.ErrLong"], apart := false, laid := [("shale/api.ErrField", laid_shale_api_ErrField), ("shale/api.ErrNumber", laid_shale_api_ErrNumber), ("shale/api.ErrLong", laid_shale_api_ErrLong), ("shale/api.ErrCode", laid_shale_api_ErrCode)], narrowed := true }
def MinimalOfUptoSaid : Prop := minimalOfUptoRow.holds Tryd.pinned (OpenSpec.upto minimalOfSpec)

/-- 'shalelaw5.MinimalCosets', WHERE WHAT IT READS IS OF BULK AT MOST 1048576: true; the input reads as it did. -/
def minimalCosetsUptoRow : OpenClaim := { program := "ytcjddlcinaedaaadoor", sum := "b770edf6ba68e4b6b22b7ecf82a76e226f0509b58ab0af81ebc5e2f518d96b35", func := "shale/shalelaw5.MinimalCosets", spec := "minimalCosets", unfollowed := true, recurses := true, named := ["shale/api.ErrField", "shale/api.ErrCode", "shale/api.ErrNumber", "shale/api.ErrLong"], apart := false, laid := [("shale/api.ErrField", laid_shale_api_ErrField), ("shale/api.ErrNumber", laid_shale_api_ErrNumber), ("shale/api.ErrLong", laid_shale_api_ErrLong), ("shale/api.ErrCode", laid_shale_api_ErrCode)], narrowed := true }
def MinimalCosetsUptoSaid : Prop := minimalCosetsUptoRow.holds Tryd.pinned (OpenSpec.upto minimalCosetsSpec)

/-- 'shalelaw5.MinimalZeros', WHERE WHAT IT READS IS OF BULK AT MOST 1048576: true; the input reads as it did. -/
def minimalZerosUptoRow : OpenClaim := { program := "ytcjddlcinaedaaadoor", sum := "b770edf6ba68e4b6b22b7ecf82a76e226f0509b58ab0af81ebc5e2f518d96b35", func := "shale/shalelaw5.MinimalZeros", spec := "minimalZeros", unfollowed := true, recurses := true, named := ["shale/api.ErrCode", "shale/api.ErrField", "shale/api.ErrNumber", "shale/api.ErrLong", "shale/api.ErrZero"], apart := false, laid := [("shale/api.ErrField", laid_shale_api_ErrField), ("shale/api.ErrNumber", laid_shale_api_ErrNumber), ("shale/api.ErrZero", laid_shale_api_ErrZero), ("shale/api.ErrLong", laid_shale_api_ErrLong), ("shale/api.ErrCode", laid_shale_api_ErrCode)], narrowed := true }
def MinimalZerosUptoSaid : Prop := minimalZerosUptoRow.holds Tryd.pinned (OpenSpec.upto minimalZerosSpec)

/-- 'shalelaw5.MinimalWhole', WHERE WHAT IT READS IS OF BULK AT MOST 1048576: true; the input reads as it did. -/
def minimalWholeUptoRow : OpenClaim := { program := "ytcjddlcinaedaaadoor", sum := "b770edf6ba68e4b6b22b7ecf82a76e226f0509b58ab0af81ebc5e2f518d96b35", func := "shale/shalelaw5.MinimalWhole", spec := "minimalWhole", unfollowed := true, recurses := true, named := ["shale/api.ErrCode", "shale/api.ErrField", "shale/api.ErrNumber", "shale/api.ErrLong"], apart := false, laid := [("shale/api.ErrField", laid_shale_api_ErrField), ("shale/api.ErrNumber", laid_shale_api_ErrNumber), ("shale/api.ErrLong", laid_shale_api_ErrLong), ("shale/api.ErrCode", laid_shale_api_ErrCode)], narrowed := true }
def MinimalWholeUptoSaid : Prop := minimalWholeUptoRow.holds Tryd.pinned (OpenSpec.upto minimalWholeSpec)

/-- 'shalelaw5.MinimalDivides', WHERE WHAT IT READS IS OF BULK AT MOST 1048576: true; the input reads as it did. -/
def minimalDividesUptoRow : OpenClaim := { program := "ytcjddlcinaedaaadoor", sum := "b770edf6ba68e4b6b22b7ecf82a76e226f0509b58ab0af81ebc5e2f518d96b35", func := "shale/shalelaw5.MinimalDivides", spec := "minimalDivides", unfollowed := true, recurses := true, named := ["shale/api.ErrCode", "shale/api.ErrField", "shale/api.ErrNumber", "shale/api.ErrLong", "shale/api.ErrZero"], apart := false, laid := [("shale/api.ErrField", laid_shale_api_ErrField), ("shale/api.ErrNumber", laid_shale_api_ErrNumber), ("shale/api.ErrZero", laid_shale_api_ErrZero), ("shale/api.ErrLong", laid_shale_api_ErrLong), ("shale/api.ErrCode", laid_shale_api_ErrCode)], narrowed := true }
def MinimalDividesUptoSaid : Prop := minimalDividesUptoRow.holds Tryd.pinned (OpenSpec.upto minimalDividesSpec)

/-- 'shalelaw26.ModelPlays', WHERE WHAT IT READS IS OF BULK AT MOST 1048576: true; the input reads as it did. -/
def modelPlaysUptoRow : OpenClaim := { program := "ytcjddlcinaedaaadoor", sum := "b770edf6ba68e4b6b22b7ecf82a76e226f0509b58ab0af81ebc5e2f518d96b35", func := "shale/shalelaw26.ModelPlays", spec := "modelPlays", unfollowed := true, recurses := true, named := ["shale/api.ErrGeometry", "shale/api.ErrNumber", "shale/api.ErrSize"], apart := false, laid := [("shale/api.ErrNumber", laid_shale_api_ErrNumber), ("shale/api.ErrGeometry", laid_shale_api_ErrGeometry), ("shale/api.ErrSize", laid_shale_api_ErrSize)], narrowed := true }
def ModelPlaysUptoSaid : Prop := modelPlaysUptoRow.holds Tryd.pinned (OpenSpec.upto modelPlaysSpec)

/-- 'shalelaw26.ModelForgets', WHERE WHAT IT READS IS OF BULK AT MOST 1048576: true; the input reads as it did. -/
def modelForgetsUptoRow : OpenClaim := { program := "ytcjddlcinaedaaadoor", sum := "b770edf6ba68e4b6b22b7ecf82a76e226f0509b58ab0af81ebc5e2f518d96b35", func := "shale/shalelaw26.ModelForgets", spec := "modelForgets", unfollowed := true, recurses := true, named := ["shale/api.ErrGeometry", "shale/api.ErrNumber", "shale/api.ErrSize"], apart := false, laid := [("shale/api.ErrNumber", laid_shale_api_ErrNumber), ("shale/api.ErrGeometry", laid_shale_api_ErrGeometry), ("shale/api.ErrSize", laid_shale_api_ErrSize)], narrowed := true }
def ModelForgetsUptoSaid : Prop := modelForgetsUptoRow.holds Tryd.pinned (OpenSpec.upto modelForgetsSpec)

/-- 'shalelaw3.BinRing', WHERE WHAT IT READS IS OF BULK AT MOST 1048576: true; the input reads as it did. -/
def binRingUptoRow : OpenClaim := { program := "ytcjddlcinaedaaadoor", sum := "b770edf6ba68e4b6b22b7ecf82a76e226f0509b58ab0af81ebc5e2f518d96b35", func := "shale/shalelaw3.BinRing", spec := "binRing", unfollowed := true, recurses := true, named := ["shale/api.ErrZero", "shale/api.ErrNumber", "shale/api.ErrLong"], apart := false, laid := [("shale/api.ErrNumber", laid_shale_api_ErrNumber), ("shale/api.ErrZero", laid_shale_api_ErrZero), ("shale/api.ErrLong", laid_shale_api_ErrLong)], narrowed := true }
def BinRingUptoSaid : Prop := binRingUptoRow.holds Tryd.pinned (OpenSpec.upto binRingSpec)

end Rows
end Go.Proofs.YtcjddlcinaedaaaDoor
