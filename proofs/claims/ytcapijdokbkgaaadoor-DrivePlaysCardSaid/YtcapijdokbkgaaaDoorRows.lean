/-
  NARROWER THAN 'FOR EVERY INPUT', by the rows' own cells (each row's printed sentence says how): ChipRules: laid · ChipKeeps: laid · ChipCuts: laid · ChipFalls: laid · ChipPlays: laid · ChipApart: laid · DriveFills: laid · DriveKeeps: laid · DrivePlays: laid.
  DERIVED. THE GIVEN ROWS OF THIS SEAT. 9 by the template 'for every input the law returns true; each argument reads behind the call as it read before'; 0 by the template 'total and deterministic' (their statements: YtcapijdokbkgaaaDoorTotals.lean).
  GIVEN WITH THE SEED: the statements are not yours to turn. If you find one false, say at which input.
  Laid BY PROGRAM, IN A SANDBOX (cutbox-rows.mjs): the forced cells as the released guide's own fill.sh prints them over the translation 4523beabc1ed8024… (all of the seat's roots in one cut). By AI agents, Wed Nov 11 2026. No macro, syntax, notation, axiom, sorry.
-/
import Derived.Test.YtcapijdokbkgaaaDoorChecked
import GoSem.Claim
import GoSem.ClaimJoined
import GoSem.ClaimMapViews
import Derived.JoinedTies
import Derived.KernelRfl
namespace Go.Proofs.YtcapijdokbkgaaaDoor
/- THE CELL 'sum', in the pinned program and in every row, IS THE sha256 OF THE DUMP (.gsa) THAT YtcapijdokbkgaaaDoorProg.lean LOADS. Nothing in Lean hashes anything: it is a label: what it is worth is what the hold of that sum in a sandbox is worth. -/
noncomputable def Tryd.pinned : Pinned := { name := "ytcapijdokbkgaaadoor", sum := "4523beabc1ed8024d25d759d28be8481879695fa687b8387fc56cfab99894526", checked := Tryd.checked }
namespace Rows
def none {H : Type} : Left H := { results := [], args := [] }

/- WHAT THE LISTED PACKAGE-LEVEL VARIABLES READ AS WHEN THE CALL BEGINS. Each datum BY PROGRAM (the guide's laid-datum.mjs) off the statement by which the dump's own 'gosem.cut.vars' lays the variable. In a bare row this is a premise. The card (YtcapijdokbkgaaaDoorCards.lean) ties it to the program's text. -/
def laid_shale_api_ErrNumber {H : Type} : DataW H := .iface "*errors.errorString" (.ptr (.agg [.lit (.string [110, 111, 32, 115, 117, 99, 104, 32, 110, 117, 109, 98, 101, 114])]))
def laid_shale_api_ErrMany {H : Type} : DataW H := .iface "*errors.errorString" (.ptr (.agg [.lit (.string [109, 111, 114, 101, 32, 105, 115, 32, 97, 109, 105, 115, 115, 32, 116, 104, 97, 110, 32, 99, 97, 110, 32, 98, 101, 32, 109, 101, 110, 100, 101, 100])]))
def laid_shale_api_ErrGeometry {H : Type} : DataW H := .iface "*errors.errorString" (.ptr (.agg [.lit (.string [110, 111, 32, 115, 117, 99, 104, 32, 99, 104, 105, 112])]))
def laid_shale_api_ErrDead {H : Type} : DataW H := .iface "*errors.errorString" (.ptr (.agg [.lit (.string [116, 104, 101, 32, 112, 111, 119, 101, 114, 32, 105, 115, 32, 111, 102, 102])]))
def laid_shale_api_ErrOrder {H : Type} : DataW H := .iface "*errors.errorString" (.ptr (.agg [.lit (.string [105, 116, 32, 100, 111, 101, 115, 32, 110, 111, 116, 32, 99, 111, 109, 101, 32, 104, 101, 114, 101])]))
def laid_shale_api_ErrFailed {H : Type} : DataW H := .iface "*errors.errorString" (.ptr (.agg [.lit (.string [116, 104, 101, 32, 99, 104, 105, 112, 32, 102, 97, 105, 108, 101, 100])]))
def laid_shale_api_ErrSize {H : Type} : DataW H := .iface "*errors.errorString" (.ptr (.agg [.lit (.string [110, 111, 32, 115, 101, 99, 116, 111, 114, 39, 115, 32, 115, 105, 122, 101])]))
def laid_shale_api_ErrField {H : Type} : DataW H := .iface "*errors.errorString" (.ptr (.agg [.lit (.string [110, 111, 32, 115, 117, 99, 104, 32, 102, 105, 101, 108, 100])]))
def laid_shale_api_ErrZero {H : Type} : DataW H := .iface "*errors.errorString" (.ptr (.agg [.lit (.string [122, 101, 114, 111, 32, 104, 97, 115, 32, 110, 111, 110, 101])]))
def laid_shale_api_ErrLong {H : Type} : DataW H := .iface "*errors.errorString" (.ptr (.agg [.lit (.string [116, 111, 111, 32, 108, 111, 110, 103])]))
def laid_shale_api_ErrCode {H : Type} : DataW H := .iface "*errors.errorString" (.ptr (.agg [.lit (.string [110, 111, 32, 115, 117, 99, 104, 32, 99, 111, 100, 101])]))
def laid_shale_api_ErrRecord {H : Type} : DataW H := .iface "*errors.errorString" (.ptr (.agg [.lit (.string [110, 111, 32, 114, 101, 99, 111, 114, 100])]))
def laid_shale_api_ErrBad {H : Type} : DataW H := .iface "*errors.errorString" (.ptr (.agg [.lit (.string [116, 104, 101, 32, 98, 108, 111, 99, 107, 32, 105, 115, 32, 98, 97, 100])]))
def laid_shale_api_ErrPage {H : Type} : DataW H := .iface "*errors.errorString" (.ptr (.agg [.lit (.string [116, 104, 101, 32, 112, 97, 103, 101, 32, 99, 97, 110, 110, 111, 116, 32, 98, 101, 32, 114, 101, 97, 100])]))
def laid_shale_api_ErrFull {H : Type} : DataW H := .iface "*errors.errorString" (.ptr (.agg [.lit (.string [110, 111, 32, 114, 111, 111, 109])]))
def laid_shale_api_ErrGone {H : Type} : DataW H := .iface "*errors.errorString" (.ptr (.agg [.lit (.string [105, 116, 32, 105, 115, 32, 110, 111, 116, 32, 116, 104, 101, 114, 101])]))
def laid_shale_api_ErrReadOnly {H : Type} : DataW H := .iface "*errors.errorString" (.ptr (.agg [.lit (.string [105, 116, 32, 99, 97, 110, 32, 111, 110, 108, 121, 32, 98, 101, 32, 114, 101, 97, 100])]))
def laid_shale_api_ErrStep {H : Type} : DataW H := .iface "*errors.errorString" (.ptr (.agg [.lit (.string [110, 111, 32, 115, 117, 99, 104, 32, 115, 116, 101, 112])]))
def laid_shale_api_ErrMount {H : Type} : DataW H := .iface "*errors.errorString" (.ptr (.agg [.lit (.string [105, 116, 32, 105, 115, 32, 110, 111, 116, 32, 109, 111, 117, 110, 116, 101, 100])]))

/-- 'shalelaw14.ChipRules': WHATEVER THE INPUT: true; the input reads as it did. -/
def chipRulesSpec : ChangeSpec := { name := "chipRules", fn := fun _ => fun
  | [d1, d2, d3, d4] => { results := [.lit (.bool true)], args := [d1, d2, d3, d4] }
  | _ => none }
def chipRulesRow : OpenClaim := { program := "ytcapijdokbkgaaadoor", sum := "4523beabc1ed8024d25d759d28be8481879695fa687b8387fc56cfab99894526", func := "shale/shalelaw14.ChipRules", spec := "chipRules", unfollowed := true, recurses := true, named := ["shale/api.ErrDead", "shale/api.ErrOrder", "shale/api.ErrGeometry", "shale/api.ErrNumber", "shale/api.ErrMany", "shale/api.ErrFailed", "shale/api.ErrSize"], apart := false, laid := [("shale/api.ErrNumber", laid_shale_api_ErrNumber), ("shale/api.ErrMany", laid_shale_api_ErrMany), ("shale/api.ErrGeometry", laid_shale_api_ErrGeometry), ("shale/api.ErrDead", laid_shale_api_ErrDead), ("shale/api.ErrOrder", laid_shale_api_ErrOrder), ("shale/api.ErrFailed", laid_shale_api_ErrFailed), ("shale/api.ErrSize", laid_shale_api_ErrSize)] }
def ChipRulesSaid : Prop := chipRulesRow.holds Tryd.pinned (OpenSpec.ofChange chipRulesSpec)

/-- ITS FALSE NEIGHBOUR: 'it returns false'. Refute it at one input. -/
def chipRulesWrong : ChangeSpec := { name := "chipRules", fn := fun _ => fun
  | [d1, d2, d3, d4] => { results := [.lit (.bool false)], args := [d1, d2, d3, d4] }
  | _ => none }
def ChipRulesWrongFalsely : Prop := chipRulesRow.holds Tryd.pinned (OpenSpec.ofChange chipRulesWrong)

/-- 'shalelaw14.ChipKeeps': WHATEVER THE INPUT: true; the input reads as it did. -/
def chipKeepsSpec : ChangeSpec := { name := "chipKeeps", fn := fun _ => fun
  | [d1, d2] => { results := [.lit (.bool true)], args := [d1, d2] }
  | _ => none }
def chipKeepsRow : OpenClaim := { program := "ytcapijdokbkgaaadoor", sum := "4523beabc1ed8024d25d759d28be8481879695fa687b8387fc56cfab99894526", func := "shale/shalelaw14.ChipKeeps", spec := "chipKeeps", unfollowed := true, recurses := true, named := ["shale/api.ErrDead", "shale/api.ErrOrder", "shale/api.ErrGeometry", "shale/api.ErrNumber", "shale/api.ErrMany", "shale/api.ErrFailed", "shale/api.ErrSize"], apart := false, laid := [("shale/api.ErrNumber", laid_shale_api_ErrNumber), ("shale/api.ErrMany", laid_shale_api_ErrMany), ("shale/api.ErrGeometry", laid_shale_api_ErrGeometry), ("shale/api.ErrDead", laid_shale_api_ErrDead), ("shale/api.ErrOrder", laid_shale_api_ErrOrder), ("shale/api.ErrFailed", laid_shale_api_ErrFailed), ("shale/api.ErrSize", laid_shale_api_ErrSize)] }
def ChipKeepsSaid : Prop := chipKeepsRow.holds Tryd.pinned (OpenSpec.ofChange chipKeepsSpec)

/-- ITS FALSE NEIGHBOUR: 'it returns false'. Refute it at one input. -/
def chipKeepsWrong : ChangeSpec := { name := "chipKeeps", fn := fun _ => fun
  | [d1, d2] => { results := [.lit (.bool false)], args := [d1, d2] }
  | _ => none }
def ChipKeepsWrongFalsely : Prop := chipKeepsRow.holds Tryd.pinned (OpenSpec.ofChange chipKeepsWrong)

/-- 'shalelaw14.ChipCuts': WHATEVER THE INPUT: true; the input reads as it did. -/
def chipCutsSpec : ChangeSpec := { name := "chipCuts", fn := fun _ => fun
  | [d1, d2, d3] => { results := [.lit (.bool true)], args := [d1, d2, d3] }
  | _ => none }
def chipCutsRow : OpenClaim := { program := "ytcapijdokbkgaaadoor", sum := "4523beabc1ed8024d25d759d28be8481879695fa687b8387fc56cfab99894526", func := "shale/shalelaw14.ChipCuts", spec := "chipCuts", unfollowed := true, recurses := true, named := ["shale/api.ErrDead", "shale/api.ErrOrder", "shale/api.ErrGeometry", "shale/api.ErrNumber", "shale/api.ErrMany", "shale/api.ErrFailed", "shale/api.ErrSize"], apart := false, laid := [("shale/api.ErrNumber", laid_shale_api_ErrNumber), ("shale/api.ErrMany", laid_shale_api_ErrMany), ("shale/api.ErrGeometry", laid_shale_api_ErrGeometry), ("shale/api.ErrDead", laid_shale_api_ErrDead), ("shale/api.ErrOrder", laid_shale_api_ErrOrder), ("shale/api.ErrFailed", laid_shale_api_ErrFailed), ("shale/api.ErrSize", laid_shale_api_ErrSize)] }
def ChipCutsSaid : Prop := chipCutsRow.holds Tryd.pinned (OpenSpec.ofChange chipCutsSpec)

/-- ITS FALSE NEIGHBOUR: 'it returns false'. Refute it at one input. -/
def chipCutsWrong : ChangeSpec := { name := "chipCuts", fn := fun _ => fun
  | [d1, d2, d3] => { results := [.lit (.bool false)], args := [d1, d2, d3] }
  | _ => none }
def ChipCutsWrongFalsely : Prop := chipCutsRow.holds Tryd.pinned (OpenSpec.ofChange chipCutsWrong)

/-- 'shalelaw14.ChipFalls': WHATEVER THE INPUT: true; the input reads as it did. -/
def chipFallsSpec : ChangeSpec := { name := "chipFalls", fn := fun _ => fun
  | [d1, d2] => { results := [.lit (.bool true)], args := [d1, d2] }
  | _ => none }
def chipFallsRow : OpenClaim := { program := "ytcapijdokbkgaaadoor", sum := "4523beabc1ed8024d25d759d28be8481879695fa687b8387fc56cfab99894526", func := "shale/shalelaw14.ChipFalls", spec := "chipFalls", unfollowed := true, recurses := true, named := ["shale/api.ErrDead", "shale/api.ErrOrder", "shale/api.ErrGeometry", "shale/api.ErrNumber", "shale/api.ErrMany", "shale/api.ErrFailed", "shale/api.ErrSize"], apart := false, laid := [("shale/api.ErrNumber", laid_shale_api_ErrNumber), ("shale/api.ErrMany", laid_shale_api_ErrMany), ("shale/api.ErrGeometry", laid_shale_api_ErrGeometry), ("shale/api.ErrDead", laid_shale_api_ErrDead), ("shale/api.ErrOrder", laid_shale_api_ErrOrder), ("shale/api.ErrFailed", laid_shale_api_ErrFailed), ("shale/api.ErrSize", laid_shale_api_ErrSize)] }
def ChipFallsSaid : Prop := chipFallsRow.holds Tryd.pinned (OpenSpec.ofChange chipFallsSpec)

/-- ITS FALSE NEIGHBOUR: 'it returns false'. Refute it at one input. -/
def chipFallsWrong : ChangeSpec := { name := "chipFalls", fn := fun _ => fun
  | [d1, d2] => { results := [.lit (.bool false)], args := [d1, d2] }
  | _ => none }
def ChipFallsWrongFalsely : Prop := chipFallsRow.holds Tryd.pinned (OpenSpec.ofChange chipFallsWrong)

/-- 'shalelaw14.ChipPlays': WHATEVER THE INPUT: true; the input reads as it did. -/
def chipPlaysSpec : ChangeSpec := { name := "chipPlays", fn := fun _ => fun
  | [d1, d2, d3, d4, d5, d6, d7, d8] => { results := [.lit (.bool true)], args := [d1, d2, d3, d4, d5, d6, d7, d8] }
  | _ => none }
def chipPlaysRow : OpenClaim := { program := "ytcapijdokbkgaaadoor", sum := "4523beabc1ed8024d25d759d28be8481879695fa687b8387fc56cfab99894526", func := "shale/shalelaw14.ChipPlays", spec := "chipPlays", unfollowed := true, recurses := true, named := ["shale/api.ErrDead", "shale/api.ErrOrder", "shale/api.ErrGeometry", "shale/api.ErrNumber", "shale/api.ErrMany", "shale/api.ErrFailed", "shale/api.ErrSize", "shale/api.ErrField", "shale/api.ErrZero", "shale/api.ErrLong", "shale/api.ErrCode", "shale/api.ErrRecord", "shale/api.ErrBad", "shale/api.ErrPage", "shale/api.ErrFull", "shale/api.ErrGone", "shale/api.ErrReadOnly", "shale/api.ErrStep", "shale/api.ErrMount"], apart := false, laid := [("shale/api.ErrField", laid_shale_api_ErrField), ("shale/api.ErrNumber", laid_shale_api_ErrNumber), ("shale/api.ErrZero", laid_shale_api_ErrZero), ("shale/api.ErrLong", laid_shale_api_ErrLong), ("shale/api.ErrCode", laid_shale_api_ErrCode), ("shale/api.ErrMany", laid_shale_api_ErrMany), ("shale/api.ErrRecord", laid_shale_api_ErrRecord), ("shale/api.ErrGeometry", laid_shale_api_ErrGeometry), ("shale/api.ErrDead", laid_shale_api_ErrDead), ("shale/api.ErrOrder", laid_shale_api_ErrOrder), ("shale/api.ErrFailed", laid_shale_api_ErrFailed), ("shale/api.ErrBad", laid_shale_api_ErrBad), ("shale/api.ErrPage", laid_shale_api_ErrPage), ("shale/api.ErrFull", laid_shale_api_ErrFull), ("shale/api.ErrGone", laid_shale_api_ErrGone), ("shale/api.ErrSize", laid_shale_api_ErrSize), ("shale/api.ErrReadOnly", laid_shale_api_ErrReadOnly), ("shale/api.ErrStep", laid_shale_api_ErrStep), ("shale/api.ErrMount", laid_shale_api_ErrMount)] }
def ChipPlaysSaid : Prop := chipPlaysRow.holds Tryd.pinned (OpenSpec.ofChange chipPlaysSpec)

/-- ITS FALSE NEIGHBOUR: 'it returns false'. Refute it at one input. -/
def chipPlaysWrong : ChangeSpec := { name := "chipPlays", fn := fun _ => fun
  | [d1, d2, d3, d4, d5, d6, d7, d8] => { results := [.lit (.bool false)], args := [d1, d2, d3, d4, d5, d6, d7, d8] }
  | _ => none }
def ChipPlaysWrongFalsely : Prop := chipPlaysRow.holds Tryd.pinned (OpenSpec.ofChange chipPlaysWrong)

/-- 'shalelaw14.ChipApart': WHATEVER THE INPUT: true; the input reads as it did. -/
def chipApartSpec : ChangeSpec := { name := "chipApart", fn := fun _ => fun
  | [d1, d2, d3] => { results := [.lit (.bool true)], args := [d1, d2, d3] }
  | _ => none }
def chipApartRow : OpenClaim := { program := "ytcapijdokbkgaaadoor", sum := "4523beabc1ed8024d25d759d28be8481879695fa687b8387fc56cfab99894526", func := "shale/shalelaw14.ChipApart", spec := "chipApart", unfollowed := true, recurses := true, named := ["shale/api.ErrDead", "shale/api.ErrOrder", "shale/api.ErrGeometry", "shale/api.ErrNumber", "shale/api.ErrMany", "shale/api.ErrFailed", "shale/api.ErrSize"], apart := false, laid := [("shale/api.ErrNumber", laid_shale_api_ErrNumber), ("shale/api.ErrMany", laid_shale_api_ErrMany), ("shale/api.ErrGeometry", laid_shale_api_ErrGeometry), ("shale/api.ErrDead", laid_shale_api_ErrDead), ("shale/api.ErrOrder", laid_shale_api_ErrOrder), ("shale/api.ErrFailed", laid_shale_api_ErrFailed), ("shale/api.ErrSize", laid_shale_api_ErrSize)] }
def ChipApartSaid : Prop := chipApartRow.holds Tryd.pinned (OpenSpec.ofChange chipApartSpec)

/-- ITS FALSE NEIGHBOUR: 'it returns false'. Refute it at one input. -/
def chipApartWrong : ChangeSpec := { name := "chipApart", fn := fun _ => fun
  | [d1, d2, d3] => { results := [.lit (.bool false)], args := [d1, d2, d3] }
  | _ => none }
def ChipApartWrongFalsely : Prop := chipApartRow.holds Tryd.pinned (OpenSpec.ofChange chipApartWrong)

/-- 'shalelaw15.DriveFills': WHATEVER THE INPUT: true; the input reads as it did. -/
def driveFillsSpec : ChangeSpec := { name := "driveFills", fn := fun _ => fun
  | [d1, d2, d3] => { results := [.lit (.bool true)], args := [d1, d2, d3] }
  | _ => none }
def driveFillsRow : OpenClaim := { program := "ytcapijdokbkgaaadoor", sum := "4523beabc1ed8024d25d759d28be8481879695fa687b8387fc56cfab99894526", func := "shale/shalelaw15.DriveFills", spec := "driveFills", unfollowed := true, recurses := true, named := ["shale/api.ErrOrder", "shale/api.ErrSize", "shale/api.ErrBad", "shale/api.ErrGeometry", "shale/api.ErrNumber", "shale/api.ErrMany", "shale/api.ErrDead", "shale/api.ErrFailed"], apart := false, laid := [("shale/api.ErrNumber", laid_shale_api_ErrNumber), ("shale/api.ErrMany", laid_shale_api_ErrMany), ("shale/api.ErrGeometry", laid_shale_api_ErrGeometry), ("shale/api.ErrDead", laid_shale_api_ErrDead), ("shale/api.ErrOrder", laid_shale_api_ErrOrder), ("shale/api.ErrFailed", laid_shale_api_ErrFailed), ("shale/api.ErrBad", laid_shale_api_ErrBad), ("shale/api.ErrSize", laid_shale_api_ErrSize)] }
def DriveFillsSaid : Prop := driveFillsRow.holds Tryd.pinned (OpenSpec.ofChange driveFillsSpec)

/-- ITS FALSE NEIGHBOUR: 'it returns false'. Refute it at one input. -/
def driveFillsWrong : ChangeSpec := { name := "driveFills", fn := fun _ => fun
  | [d1, d2, d3] => { results := [.lit (.bool false)], args := [d1, d2, d3] }
  | _ => none }
def DriveFillsWrongFalsely : Prop := driveFillsRow.holds Tryd.pinned (OpenSpec.ofChange driveFillsWrong)

/-- 'shalelaw15.DriveKeeps': WHATEVER THE INPUT: true; the input reads as it did. -/
def driveKeepsSpec : ChangeSpec := { name := "driveKeeps", fn := fun _ => fun
  | [d1, d2, d3] => { results := [.lit (.bool true)], args := [d1, d2, d3] }
  | _ => none }
def driveKeepsRow : OpenClaim := { program := "ytcapijdokbkgaaadoor", sum := "4523beabc1ed8024d25d759d28be8481879695fa687b8387fc56cfab99894526", func := "shale/shalelaw15.DriveKeeps", spec := "driveKeeps", unfollowed := true, recurses := true, named := ["shale/api.ErrOrder", "shale/api.ErrBad", "shale/api.ErrGeometry", "shale/api.ErrNumber", "shale/api.ErrMany", "shale/api.ErrSize", "shale/api.ErrDead", "shale/api.ErrFailed"], apart := false, laid := [("shale/api.ErrNumber", laid_shale_api_ErrNumber), ("shale/api.ErrMany", laid_shale_api_ErrMany), ("shale/api.ErrGeometry", laid_shale_api_ErrGeometry), ("shale/api.ErrDead", laid_shale_api_ErrDead), ("shale/api.ErrOrder", laid_shale_api_ErrOrder), ("shale/api.ErrFailed", laid_shale_api_ErrFailed), ("shale/api.ErrBad", laid_shale_api_ErrBad), ("shale/api.ErrSize", laid_shale_api_ErrSize)] }
def DriveKeepsSaid : Prop := driveKeepsRow.holds Tryd.pinned (OpenSpec.ofChange driveKeepsSpec)

/-- ITS FALSE NEIGHBOUR: 'it returns false'. Refute it at one input. -/
def driveKeepsWrong : ChangeSpec := { name := "driveKeeps", fn := fun _ => fun
  | [d1, d2, d3] => { results := [.lit (.bool false)], args := [d1, d2, d3] }
  | _ => none }
def DriveKeepsWrongFalsely : Prop := driveKeepsRow.holds Tryd.pinned (OpenSpec.ofChange driveKeepsWrong)

/-- 'shalelaw15.DrivePlays': WHATEVER THE INPUT: true; the input reads as it did. -/
def drivePlaysSpec : ChangeSpec := { name := "drivePlays", fn := fun _ => fun
  | [d1, d2, d3, d4] => { results := [.lit (.bool true)], args := [d1, d2, d3, d4] }
  | _ => none }
def drivePlaysRow : OpenClaim := { program := "ytcapijdokbkgaaadoor", sum := "4523beabc1ed8024d25d759d28be8481879695fa687b8387fc56cfab99894526", func := "shale/shalelaw15.DrivePlays", spec := "drivePlays", unfollowed := true, recurses := true, named := ["shale/api.ErrOrder", "shale/api.ErrBad", "shale/api.ErrGeometry", "shale/api.ErrNumber", "shale/api.ErrMany", "shale/api.ErrSize", "shale/api.ErrDead", "shale/api.ErrFailed", "shale/api.ErrField", "shale/api.ErrZero", "shale/api.ErrLong", "shale/api.ErrCode", "shale/api.ErrRecord", "shale/api.ErrPage", "shale/api.ErrFull", "shale/api.ErrGone", "shale/api.ErrReadOnly", "shale/api.ErrStep", "shale/api.ErrMount"], apart := false, laid := [("shale/api.ErrField", laid_shale_api_ErrField), ("shale/api.ErrNumber", laid_shale_api_ErrNumber), ("shale/api.ErrZero", laid_shale_api_ErrZero), ("shale/api.ErrLong", laid_shale_api_ErrLong), ("shale/api.ErrCode", laid_shale_api_ErrCode), ("shale/api.ErrMany", laid_shale_api_ErrMany), ("shale/api.ErrRecord", laid_shale_api_ErrRecord), ("shale/api.ErrGeometry", laid_shale_api_ErrGeometry), ("shale/api.ErrDead", laid_shale_api_ErrDead), ("shale/api.ErrOrder", laid_shale_api_ErrOrder), ("shale/api.ErrFailed", laid_shale_api_ErrFailed), ("shale/api.ErrBad", laid_shale_api_ErrBad), ("shale/api.ErrPage", laid_shale_api_ErrPage), ("shale/api.ErrFull", laid_shale_api_ErrFull), ("shale/api.ErrGone", laid_shale_api_ErrGone), ("shale/api.ErrSize", laid_shale_api_ErrSize), ("shale/api.ErrReadOnly", laid_shale_api_ErrReadOnly), ("shale/api.ErrStep", laid_shale_api_ErrStep), ("shale/api.ErrMount", laid_shale_api_ErrMount)] }
def DrivePlaysSaid : Prop := drivePlaysRow.holds Tryd.pinned (OpenSpec.ofChange drivePlaysSpec)

/-- ITS FALSE NEIGHBOUR: 'it returns false'. Refute it at one input. -/
def drivePlaysWrong : ChangeSpec := { name := "drivePlays", fn := fun _ => fun
  | [d1, d2, d3, d4] => { results := [.lit (.bool false)], args := [d1, d2, d3, d4] }
  | _ => none }
def DrivePlaysWrongFalsely : Prop := drivePlaysRow.holds Tryd.pinned (OpenSpec.ofChange drivePlaysWrong)

/- THE SECOND FORM. 'bulk': how many values and letters a reading holds, each counted each time it is reached (what is shared counts as often as it is met; a slice's spare places count too). A statement '..UptoSaid' is the law's where the arguments, and the package variables that the reading takes, are together of bulk at most 1048576: NARROWER than '..Said'. Prove '..Said' where nothing that the law and all that it calls make is longer than what came in: it says more and counts as full. Else prove '..UptoSaid'. A law counts once. -/
mutual
def uptoBulk {H : Type} : DataW H → Nat
  | .lit (.string bytes) => bytes.length + 1
  | .lit _ => 1
  | .nil => 1
  | .ptr d => uptoBulk d + 1
  | .slice elems spare => uptoBulkAll elems + uptoBulkAll spare + 1
  | .agg parts => uptoBulkAll parts + 1
  | .iface _ d => uptoBulk d + 1
  | .map entries => uptoBulkEntries entries + 1
  | .held _ => 1
def uptoBulkAll {H : Type} : List (DataW H) → Nat
  | [] => 0
  | d :: r => uptoBulk d + uptoBulkAll r
def uptoBulkEntries {H : Type} : List (Lit × DataW H) → Nat
  | [] => 0
  | x :: r => uptoBulkEntry x + uptoBulkEntries r
def uptoBulkEntry {H : Type} : Lit × DataW H → Nat
  | (.string bytes, d) => bytes.length + uptoBulk d + 1
  | (_, d) => uptoBulk d + 1
 end
def uptoSmall : (H : Type) → List (DataW H) → Bool := fun _ ds => decide (uptoBulkAll ds ≤ 1048576)
def OpenSpec.upto (s : _root_.Go.ChangeSpec) : _root_.Go.OpenSpec := { _root_.Go.OpenSpec.ofChange s with cond := some uptoSmall }

/-- 'shalelaw14.ChipRules', WHERE WHAT IT READS IS OF BULK AT MOST 1048576: true; the input reads as it did. -/
def chipRulesUptoRow : OpenClaim := { program := "ytcapijdokbkgaaadoor", sum := "4523beabc1ed8024d25d759d28be8481879695fa687b8387fc56cfab99894526", func := "shale/shalelaw14.ChipRules", spec := "chipRules", unfollowed := true, recurses := true, named := ["shale/api.ErrDead", "shale/api.ErrOrder", "shale/api.ErrGeometry", "shale/api.ErrNumber", "shale/api.ErrMany", "shale/api.ErrFailed", "shale/api.ErrSize"], apart := false, laid := [("shale/api.ErrNumber", laid_shale_api_ErrNumber), ("shale/api.ErrMany", laid_shale_api_ErrMany), ("shale/api.ErrGeometry", laid_shale_api_ErrGeometry), ("shale/api.ErrDead", laid_shale_api_ErrDead), ("shale/api.ErrOrder", laid_shale_api_ErrOrder), ("shale/api.ErrFailed", laid_shale_api_ErrFailed), ("shale/api.ErrSize", laid_shale_api_ErrSize)], narrowed := true }
def ChipRulesUptoSaid : Prop := chipRulesUptoRow.holds Tryd.pinned (OpenSpec.upto chipRulesSpec)

/-- 'shalelaw14.ChipKeeps', WHERE WHAT IT READS IS OF BULK AT MOST 1048576: true; the input reads as it did. -/
def chipKeepsUptoRow : OpenClaim := { program := "ytcapijdokbkgaaadoor", sum := "4523beabc1ed8024d25d759d28be8481879695fa687b8387fc56cfab99894526", func := "shale/shalelaw14.ChipKeeps", spec := "chipKeeps", unfollowed := true, recurses := true, named := ["shale/api.ErrDead", "shale/api.ErrOrder", "shale/api.ErrGeometry", "shale/api.ErrNumber", "shale/api.ErrMany", "shale/api.ErrFailed", "shale/api.ErrSize"], apart := false, laid := [("shale/api.ErrNumber", laid_shale_api_ErrNumber), ("shale/api.ErrMany", laid_shale_api_ErrMany), ("shale/api.ErrGeometry", laid_shale_api_ErrGeometry), ("shale/api.ErrDead", laid_shale_api_ErrDead), ("shale/api.ErrOrder", laid_shale_api_ErrOrder), ("shale/api.ErrFailed", laid_shale_api_ErrFailed), ("shale/api.ErrSize", laid_shale_api_ErrSize)], narrowed := true }
def ChipKeepsUptoSaid : Prop := chipKeepsUptoRow.holds Tryd.pinned (OpenSpec.upto chipKeepsSpec)

/-- 'shalelaw14.ChipCuts', WHERE WHAT IT READS IS OF BULK AT MOST 1048576: true; the input reads as it did. -/
def chipCutsUptoRow : OpenClaim := { program := "ytcapijdokbkgaaadoor", sum := "4523beabc1ed8024d25d759d28be8481879695fa687b8387fc56cfab99894526", func := "shale/shalelaw14.ChipCuts", spec := "chipCuts", unfollowed := true, recurses := true, named := ["shale/api.ErrDead", "shale/api.ErrOrder", "shale/api.ErrGeometry", "shale/api.ErrNumber", "shale/api.ErrMany", "shale/api.ErrFailed", "shale/api.ErrSize"], apart := false, laid := [("shale/api.ErrNumber", laid_shale_api_ErrNumber), ("shale/api.ErrMany", laid_shale_api_ErrMany), ("shale/api.ErrGeometry", laid_shale_api_ErrGeometry), ("shale/api.ErrDead", laid_shale_api_ErrDead), ("shale/api.ErrOrder", laid_shale_api_ErrOrder), ("shale/api.ErrFailed", laid_shale_api_ErrFailed), ("shale/api.ErrSize", laid_shale_api_ErrSize)], narrowed := true }
def ChipCutsUptoSaid : Prop := chipCutsUptoRow.holds Tryd.pinned (OpenSpec.upto chipCutsSpec)

/-- 'shalelaw14.ChipFalls', WHERE WHAT IT READS IS OF BULK AT MOST 1048576: true; the input reads as it did. -/
def chipFallsUptoRow : OpenClaim := { program := "ytcapijdokbkgaaadoor", sum := "4523beabc1ed8024d25d759d28be8481879695fa687b8387fc56cfab99894526", func := "shale/shalelaw14.ChipFalls", spec := "chipFalls", unfollowed := true, recurses := true, named := ["shale/api.ErrDead", "shale/api.ErrOrder", "shale/api.ErrGeometry", "shale/api.ErrNumber", "shale/api.ErrMany", "shale/api.ErrFailed", "shale/api.ErrSize"], apart := false, laid := [("shale/api.ErrNumber", laid_shale_api_ErrNumber), ("shale/api.ErrMany", laid_shale_api_ErrMany), ("shale/api.ErrGeometry", laid_shale_api_ErrGeometry), ("shale/api.ErrDead", laid_shale_api_ErrDead), ("shale/api.ErrOrder", laid_shale_api_ErrOrder), ("shale/api.ErrFailed", laid_shale_api_ErrFailed), ("shale/api.ErrSize", laid_shale_api_ErrSize)], narrowed := true }
def ChipFallsUptoSaid : Prop := chipFallsUptoRow.holds Tryd.pinned (OpenSpec.upto chipFallsSpec)

/-- 'shalelaw14.ChipPlays', WHERE WHAT IT READS IS OF BULK AT MOST 1048576: true; the input reads as it did. -/
def chipPlaysUptoRow : OpenClaim := { program := "ytcapijdokbkgaaadoor", sum := "4523beabc1ed8024d25d759d28be8481879695fa687b8387fc56cfab99894526", func := "shale/shalelaw14.ChipPlays", spec := "chipPlays", unfollowed := true, recurses := true, named := ["shale/api.ErrDead", "shale/api.ErrOrder", "shale/api.ErrGeometry", "shale/api.ErrNumber", "shale/api.ErrMany", "shale/api.ErrFailed", "shale/api.ErrSize", "shale/api.ErrField", "shale/api.ErrZero", "shale/api.ErrLong", "shale/api.ErrCode", "shale/api.ErrRecord", "shale/api.ErrBad", "shale/api.ErrPage", "shale/api.ErrFull", "shale/api.ErrGone", "shale/api.ErrReadOnly", "shale/api.ErrStep", "shale/api.ErrMount"], apart := false, laid := [("shale/api.ErrField", laid_shale_api_ErrField), ("shale/api.ErrNumber", laid_shale_api_ErrNumber), ("shale/api.ErrZero", laid_shale_api_ErrZero), ("shale/api.ErrLong", laid_shale_api_ErrLong), ("shale/api.ErrCode", laid_shale_api_ErrCode), ("shale/api.ErrMany", laid_shale_api_ErrMany), ("shale/api.ErrRecord", laid_shale_api_ErrRecord), ("shale/api.ErrGeometry", laid_shale_api_ErrGeometry), ("shale/api.ErrDead", laid_shale_api_ErrDead), ("shale/api.ErrOrder", laid_shale_api_ErrOrder), ("shale/api.ErrFailed", laid_shale_api_ErrFailed), ("shale/api.ErrBad", laid_shale_api_ErrBad), ("shale/api.ErrPage", laid_shale_api_ErrPage), ("shale/api.ErrFull", laid_shale_api_ErrFull), ("shale/api.ErrGone", laid_shale_api_ErrGone), ("shale/api.ErrSize", laid_shale_api_ErrSize), ("shale/api.ErrReadOnly", laid_shale_api_ErrReadOnly), ("shale/api.ErrStep", laid_shale_api_ErrStep), ("shale/api.ErrMount", laid_shale_api_ErrMount)], narrowed := true }
def ChipPlaysUptoSaid : Prop := chipPlaysUptoRow.holds Tryd.pinned (OpenSpec.upto chipPlaysSpec)

/-- 'shalelaw14.ChipApart', WHERE WHAT IT READS IS OF BULK AT MOST 1048576: true; the input reads as it did. -/
def chipApartUptoRow : OpenClaim := { program := "ytcapijdokbkgaaadoor", sum := "4523beabc1ed8024d25d759d28be8481879695fa687b8387fc56cfab99894526", func := "shale/shalelaw14.ChipApart", spec := "chipApart", unfollowed := true, recurses := true, named := ["shale/api.ErrDead", "shale/api.ErrOrder", "shale/api.ErrGeometry", "shale/api.ErrNumber", "shale/api.ErrMany", "shale/api.ErrFailed", "shale/api.ErrSize"], apart := false, laid := [("shale/api.ErrNumber", laid_shale_api_ErrNumber), ("shale/api.ErrMany", laid_shale_api_ErrMany), ("shale/api.ErrGeometry", laid_shale_api_ErrGeometry), ("shale/api.ErrDead", laid_shale_api_ErrDead), ("shale/api.ErrOrder", laid_shale_api_ErrOrder), ("shale/api.ErrFailed", laid_shale_api_ErrFailed), ("shale/api.ErrSize", laid_shale_api_ErrSize)], narrowed := true }
def ChipApartUptoSaid : Prop := chipApartUptoRow.holds Tryd.pinned (OpenSpec.upto chipApartSpec)

/-- 'shalelaw15.DriveFills', WHERE WHAT IT READS IS OF BULK AT MOST 1048576: true; the input reads as it did. -/
def driveFillsUptoRow : OpenClaim := { program := "ytcapijdokbkgaaadoor", sum := "4523beabc1ed8024d25d759d28be8481879695fa687b8387fc56cfab99894526", func := "shale/shalelaw15.DriveFills", spec := "driveFills", unfollowed := true, recurses := true, named := ["shale/api.ErrOrder", "shale/api.ErrSize", "shale/api.ErrBad", "shale/api.ErrGeometry", "shale/api.ErrNumber", "shale/api.ErrMany", "shale/api.ErrDead", "shale/api.ErrFailed"], apart := false, laid := [("shale/api.ErrNumber", laid_shale_api_ErrNumber), ("shale/api.ErrMany", laid_shale_api_ErrMany), ("shale/api.ErrGeometry", laid_shale_api_ErrGeometry), ("shale/api.ErrDead", laid_shale_api_ErrDead), ("shale/api.ErrOrder", laid_shale_api_ErrOrder), ("shale/api.ErrFailed", laid_shale_api_ErrFailed), ("shale/api.ErrBad", laid_shale_api_ErrBad), ("shale/api.ErrSize", laid_shale_api_ErrSize)], narrowed := true }
def DriveFillsUptoSaid : Prop := driveFillsUptoRow.holds Tryd.pinned (OpenSpec.upto driveFillsSpec)

/-- 'shalelaw15.DriveKeeps', WHERE WHAT IT READS IS OF BULK AT MOST 1048576: true; the input reads as it did. -/
def driveKeepsUptoRow : OpenClaim := { program := "ytcapijdokbkgaaadoor", sum := "4523beabc1ed8024d25d759d28be8481879695fa687b8387fc56cfab99894526", func := "shale/shalelaw15.DriveKeeps", spec := "driveKeeps", unfollowed := true, recurses := true, named := ["shale/api.ErrOrder", "shale/api.ErrBad", "shale/api.ErrGeometry", "shale/api.ErrNumber", "shale/api.ErrMany", "shale/api.ErrSize", "shale/api.ErrDead", "shale/api.ErrFailed"], apart := false, laid := [("shale/api.ErrNumber", laid_shale_api_ErrNumber), ("shale/api.ErrMany", laid_shale_api_ErrMany), ("shale/api.ErrGeometry", laid_shale_api_ErrGeometry), ("shale/api.ErrDead", laid_shale_api_ErrDead), ("shale/api.ErrOrder", laid_shale_api_ErrOrder), ("shale/api.ErrFailed", laid_shale_api_ErrFailed), ("shale/api.ErrBad", laid_shale_api_ErrBad), ("shale/api.ErrSize", laid_shale_api_ErrSize)], narrowed := true }
def DriveKeepsUptoSaid : Prop := driveKeepsUptoRow.holds Tryd.pinned (OpenSpec.upto driveKeepsSpec)

/-- 'shalelaw15.DrivePlays', WHERE WHAT IT READS IS OF BULK AT MOST 1048576: true; the input reads as it did. -/
def drivePlaysUptoRow : OpenClaim := { program := "ytcapijdokbkgaaadoor", sum := "4523beabc1ed8024d25d759d28be8481879695fa687b8387fc56cfab99894526", func := "shale/shalelaw15.DrivePlays", spec := "drivePlays", unfollowed := true, recurses := true, named := ["shale/api.ErrOrder", "shale/api.ErrBad", "shale/api.ErrGeometry", "shale/api.ErrNumber", "shale/api.ErrMany", "shale/api.ErrSize", "shale/api.ErrDead", "shale/api.ErrFailed", "shale/api.ErrField", "shale/api.ErrZero", "shale/api.ErrLong", "shale/api.ErrCode", "shale/api.ErrRecord", "shale/api.ErrPage", "shale/api.ErrFull", "shale/api.ErrGone", "shale/api.ErrReadOnly", "shale/api.ErrStep", "shale/api.ErrMount"], apart := false, laid := [("shale/api.ErrField", laid_shale_api_ErrField), ("shale/api.ErrNumber", laid_shale_api_ErrNumber), ("shale/api.ErrZero", laid_shale_api_ErrZero), ("shale/api.ErrLong", laid_shale_api_ErrLong), ("shale/api.ErrCode", laid_shale_api_ErrCode), ("shale/api.ErrMany", laid_shale_api_ErrMany), ("shale/api.ErrRecord", laid_shale_api_ErrRecord), ("shale/api.ErrGeometry", laid_shale_api_ErrGeometry), ("shale/api.ErrDead", laid_shale_api_ErrDead), ("shale/api.ErrOrder", laid_shale_api_ErrOrder), ("shale/api.ErrFailed", laid_shale_api_ErrFailed), ("shale/api.ErrBad", laid_shale_api_ErrBad), ("shale/api.ErrPage", laid_shale_api_ErrPage), ("shale/api.ErrFull", laid_shale_api_ErrFull), ("shale/api.ErrGone", laid_shale_api_ErrGone), ("shale/api.ErrSize", laid_shale_api_ErrSize), ("shale/api.ErrReadOnly", laid_shale_api_ErrReadOnly), ("shale/api.ErrStep", laid_shale_api_ErrStep), ("shale/api.ErrMount", laid_shale_api_ErrMount)], narrowed := true }
def DrivePlaysUptoSaid : Prop := drivePlaysUptoRow.holds Tryd.pinned (OpenSpec.upto drivePlaysSpec)

end Rows
end Go.Proofs.YtcapijdokbkgaaaDoor
