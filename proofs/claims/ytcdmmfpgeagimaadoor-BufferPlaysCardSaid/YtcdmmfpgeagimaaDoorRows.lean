/-
  NARROWER THAN 'FOR EVERY INPUT', by the rows' own cells (each row's printed sentence says how): SyndromeSays: laid · BinSays: laid · BufferKeeps: laid · BufferOwn: laid · BufferPlays: laid · ModelPlays: laid · ModelForgets: laid.
  DERIVED. THE GIVEN ROWS OF THIS SEAT. 7 by the template 'for every input the law returns true; each argument reads behind the call as it read before'; 0 by the template 'total and deterministic' (their statements: YtcdmmfpgeagimaaDoorTotals.lean).
  GIVEN WITH THE SEED: the statements are not yours to turn. If you find one false, say at which input.
  Laid BY PROGRAM, IN A SANDBOX (cutbox-rows.mjs): the forced cells as the released guide's own fill.sh prints them over the translation f84dd4af70cbea59… (all of the seat's roots in one cut). By AI agents, Wed Nov 11 2026. No macro, syntax, notation, axiom, sorry.
-/
import Derived.Test.YtcdmmfpgeagimaaDoorChecked
import GoSem.Claim
import GoSem.ClaimJoined
import GoSem.ClaimMapViews
import Derived.JoinedTies
import Derived.KernelRfl
namespace Go.Proofs.YtcdmmfpgeagimaaDoor
/- THE CELL 'sum', in the pinned program and in every row, IS THE sha256 OF THE DUMP (.gsa) THAT YtcdmmfpgeagimaaDoorProg.lean LOADS. Nothing in Lean hashes anything: it is a label: what it is worth is what the hold of that sum in a sandbox is worth. -/
noncomputable def Tryd.pinned : Pinned := { name := "ytcdmmfpgeagimaadoor", sum := "f84dd4af70cbea5946abd23d2b7d3b76f85d25eb3e9690227730c3d8a7d8f9e0", checked := Tryd.checked }
namespace Rows
def none {H : Type} : Left H := { results := [], args := [] }

/- WHAT THE LISTED PACKAGE-LEVEL VARIABLES READ AS WHEN THE CALL BEGINS. Each datum BY PROGRAM (the guide's laid-datum.mjs) off the statement by which the dump's own 'gosem.cut.vars' lays the variable. In a bare row this is a premise. The card (YtcdmmfpgeagimaaDoorCards.lean) ties it to the program's text. -/
def laid_shale_api_ErrField {H : Type} : DataW H := .iface "*errors.errorString" (.ptr (.agg [.lit (.string [110, 111, 32, 115, 117, 99, 104, 32, 102, 105, 101, 108, 100])]))
def laid_shale_api_ErrNumber {H : Type} : DataW H := .iface "*errors.errorString" (.ptr (.agg [.lit (.string [110, 111, 32, 115, 117, 99, 104, 32, 110, 117, 109, 98, 101, 114])]))
def laid_shale_api_ErrLong {H : Type} : DataW H := .iface "*errors.errorString" (.ptr (.agg [.lit (.string [116, 111, 111, 32, 108, 111, 110, 103])]))
def laid_shale_api_ErrCode {H : Type} : DataW H := .iface "*errors.errorString" (.ptr (.agg [.lit (.string [110, 111, 32, 115, 117, 99, 104, 32, 99, 111, 100, 101])]))
def laid_shale_api_ErrZero {H : Type} : DataW H := .iface "*errors.errorString" (.ptr (.agg [.lit (.string [122, 101, 114, 111, 32, 104, 97, 115, 32, 110, 111, 110, 101])]))
def laid_shale_api_ErrGeometry {H : Type} : DataW H := .iface "*errors.errorString" (.ptr (.agg [.lit (.string [110, 111, 32, 115, 117, 99, 104, 32, 99, 104, 105, 112])]))
def laid_shale_api_ErrFull {H : Type} : DataW H := .iface "*errors.errorString" (.ptr (.agg [.lit (.string [110, 111, 32, 114, 111, 111, 109])]))
def laid_shale_api_ErrSize {H : Type} : DataW H := .iface "*errors.errorString" (.ptr (.agg [.lit (.string [110, 111, 32, 115, 101, 99, 116, 111, 114, 39, 115, 32, 115, 105, 122, 101])]))
def laid_shale_api_ErrMany {H : Type} : DataW H := .iface "*errors.errorString" (.ptr (.agg [.lit (.string [109, 111, 114, 101, 32, 105, 115, 32, 97, 109, 105, 115, 115, 32, 116, 104, 97, 110, 32, 99, 97, 110, 32, 98, 101, 32, 109, 101, 110, 100, 101, 100])]))
def laid_shale_api_ErrRecord {H : Type} : DataW H := .iface "*errors.errorString" (.ptr (.agg [.lit (.string [110, 111, 32, 114, 101, 99, 111, 114, 100])]))
def laid_shale_api_ErrDead {H : Type} : DataW H := .iface "*errors.errorString" (.ptr (.agg [.lit (.string [116, 104, 101, 32, 112, 111, 119, 101, 114, 32, 105, 115, 32, 111, 102, 102])]))
def laid_shale_api_ErrOrder {H : Type} : DataW H := .iface "*errors.errorString" (.ptr (.agg [.lit (.string [105, 116, 32, 100, 111, 101, 115, 32, 110, 111, 116, 32, 99, 111, 109, 101, 32, 104, 101, 114, 101])]))
def laid_shale_api_ErrFailed {H : Type} : DataW H := .iface "*errors.errorString" (.ptr (.agg [.lit (.string [116, 104, 101, 32, 99, 104, 105, 112, 32, 102, 97, 105, 108, 101, 100])]))
def laid_shale_api_ErrBad {H : Type} : DataW H := .iface "*errors.errorString" (.ptr (.agg [.lit (.string [116, 104, 101, 32, 98, 108, 111, 99, 107, 32, 105, 115, 32, 98, 97, 100])]))
def laid_shale_api_ErrPage {H : Type} : DataW H := .iface "*errors.errorString" (.ptr (.agg [.lit (.string [116, 104, 101, 32, 112, 97, 103, 101, 32, 99, 97, 110, 110, 111, 116, 32, 98, 101, 32, 114, 101, 97, 100])]))
def laid_shale_api_ErrGone {H : Type} : DataW H := .iface "*errors.errorString" (.ptr (.agg [.lit (.string [105, 116, 32, 105, 115, 32, 110, 111, 116, 32, 116, 104, 101, 114, 101])]))
def laid_shale_api_ErrReadOnly {H : Type} : DataW H := .iface "*errors.errorString" (.ptr (.agg [.lit (.string [105, 116, 32, 99, 97, 110, 32, 111, 110, 108, 121, 32, 98, 101, 32, 114, 101, 97, 100])]))
def laid_shale_api_ErrStep {H : Type} : DataW H := .iface "*errors.errorString" (.ptr (.agg [.lit (.string [110, 111, 32, 115, 117, 99, 104, 32, 115, 116, 101, 112])]))
def laid_shale_api_ErrMount {H : Type} : DataW H := .iface "*errors.errorString" (.ptr (.agg [.lit (.string [105, 116, 32, 105, 115, 32, 110, 111, 116, 32, 109, 111, 117, 110, 116, 101, 100])]))

/-- 'shalelaw7.SyndromeSays': WHATEVER THE INPUT: true; the input reads as it did. -/
def syndromeSaysSpec : ChangeSpec := { name := "syndromeSays", fn := fun _ => fun
  | [d1, d2, d3, d4, d5, d6, d7, d8] => { results := [.lit (.bool true)], args := [d1, d2, d3, d4, d5, d6, d7, d8] }
  | _ => none }
def syndromeSaysRow : OpenClaim := { program := "ytcdmmfpgeagimaadoor", sum := "f84dd4af70cbea5946abd23d2b7d3b76f85d25eb3e9690227730c3d8a7d8f9e0", func := "shale/shalelaw7.SyndromeSays", spec := "syndromeSays", unfollowed := true, recurses := true, named := ["shale/api.ErrLong", "shale/api.ErrNumber", "shale/api.ErrCode", "shale/api.ErrField"], apart := false, laid := [("shale/api.ErrField", laid_shale_api_ErrField), ("shale/api.ErrNumber", laid_shale_api_ErrNumber), ("shale/api.ErrLong", laid_shale_api_ErrLong), ("shale/api.ErrCode", laid_shale_api_ErrCode)] }
def SyndromeSaysSaid : Prop := syndromeSaysRow.holds Tryd.pinned (OpenSpec.ofChange syndromeSaysSpec)

/-- ITS FALSE NEIGHBOUR: 'it returns false'. Refute it at one input. -/
def syndromeSaysWrong : ChangeSpec := { name := "syndromeSays", fn := fun _ => fun
  | [d1, d2, d3, d4, d5, d6, d7, d8] => { results := [.lit (.bool false)], args := [d1, d2, d3, d4, d5, d6, d7, d8] }
  | _ => none }
def SyndromeSaysWrongFalsely : Prop := syndromeSaysRow.holds Tryd.pinned (OpenSpec.ofChange syndromeSaysWrong)

/-- 'shalelaw3.BinSays': WHATEVER THE INPUT: true; the input reads as it did. -/
def binSaysSpec : ChangeSpec := { name := "binSays", fn := fun _ => fun
  | [d1, d2, d3, d4] => { results := [.lit (.bool true)], args := [d1, d2, d3, d4] }
  | _ => none }
def binSaysRow : OpenClaim := { program := "ytcdmmfpgeagimaadoor", sum := "f84dd4af70cbea5946abd23d2b7d3b76f85d25eb3e9690227730c3d8a7d8f9e0", func := "shale/shalelaw3.BinSays", spec := "binSays", unfollowed := true, recurses := true, named := ["shale/api.ErrZero", "shale/api.ErrLong", "shale/api.ErrNumber"], apart := false, laid := [("shale/api.ErrNumber", laid_shale_api_ErrNumber), ("shale/api.ErrZero", laid_shale_api_ErrZero), ("shale/api.ErrLong", laid_shale_api_ErrLong)] }
def BinSaysSaid : Prop := binSaysRow.holds Tryd.pinned (OpenSpec.ofChange binSaysSpec)

/-- ITS FALSE NEIGHBOUR: 'it returns false'. Refute it at one input. -/
def binSaysWrong : ChangeSpec := { name := "binSays", fn := fun _ => fun
  | [d1, d2, d3, d4] => { results := [.lit (.bool false)], args := [d1, d2, d3, d4] }
  | _ => none }
def BinSaysWrongFalsely : Prop := binSaysRow.holds Tryd.pinned (OpenSpec.ofChange binSaysWrong)

/-- 'shalelaw19.BufferKeeps': WHATEVER THE INPUT: true; the input reads as it did. -/
def bufferKeepsSpec : ChangeSpec := { name := "bufferKeeps", fn := fun _ => fun
  | [d1, d2] => { results := [.lit (.bool true)], args := [d1, d2] }
  | _ => none }
def bufferKeepsRow : OpenClaim := { program := "ytcdmmfpgeagimaadoor", sum := "f84dd4af70cbea5946abd23d2b7d3b76f85d25eb3e9690227730c3d8a7d8f9e0", func := "shale/shalelaw19.BufferKeeps", spec := "bufferKeeps", unfollowed := true, recurses := true, named := ["shale/api.ErrFull", "shale/api.ErrNumber", "shale/api.ErrSize", "shale/api.ErrGeometry"], apart := false, laid := [("shale/api.ErrNumber", laid_shale_api_ErrNumber), ("shale/api.ErrGeometry", laid_shale_api_ErrGeometry), ("shale/api.ErrFull", laid_shale_api_ErrFull), ("shale/api.ErrSize", laid_shale_api_ErrSize)] }
def BufferKeepsSaid : Prop := bufferKeepsRow.holds Tryd.pinned (OpenSpec.ofChange bufferKeepsSpec)

/-- ITS FALSE NEIGHBOUR: 'it returns false'. Refute it at one input. -/
def bufferKeepsWrong : ChangeSpec := { name := "bufferKeeps", fn := fun _ => fun
  | [d1, d2] => { results := [.lit (.bool false)], args := [d1, d2] }
  | _ => none }
def BufferKeepsWrongFalsely : Prop := bufferKeepsRow.holds Tryd.pinned (OpenSpec.ofChange bufferKeepsWrong)

/-- 'shalelaw19.BufferOwn': WHATEVER THE INPUT: true; the input reads as it did. -/
def bufferOwnSpec : ChangeSpec := { name := "bufferOwn", fn := fun _ => fun
  | [d1, d2] => { results := [.lit (.bool true)], args := [d1, d2] }
  | _ => none }
def bufferOwnRow : OpenClaim := { program := "ytcdmmfpgeagimaadoor", sum := "f84dd4af70cbea5946abd23d2b7d3b76f85d25eb3e9690227730c3d8a7d8f9e0", func := "shale/shalelaw19.BufferOwn", spec := "bufferOwn", unfollowed := true, recurses := true, named := ["shale/api.ErrFull", "shale/api.ErrNumber", "shale/api.ErrSize", "shale/api.ErrGeometry"], apart := false, laid := [("shale/api.ErrNumber", laid_shale_api_ErrNumber), ("shale/api.ErrGeometry", laid_shale_api_ErrGeometry), ("shale/api.ErrFull", laid_shale_api_ErrFull), ("shale/api.ErrSize", laid_shale_api_ErrSize)] }
def BufferOwnSaid : Prop := bufferOwnRow.holds Tryd.pinned (OpenSpec.ofChange bufferOwnSpec)

/-- ITS FALSE NEIGHBOUR: 'it returns false'. Refute it at one input. -/
def bufferOwnWrong : ChangeSpec := { name := "bufferOwn", fn := fun _ => fun
  | [d1, d2] => { results := [.lit (.bool false)], args := [d1, d2] }
  | _ => none }
def BufferOwnWrongFalsely : Prop := bufferOwnRow.holds Tryd.pinned (OpenSpec.ofChange bufferOwnWrong)

/-- 'shalelaw19.BufferPlays': WHATEVER THE INPUT: true; the input reads as it did. -/
def bufferPlaysSpec : ChangeSpec := { name := "bufferPlays", fn := fun _ => fun
  | [d1, d2, d3, d4, d5, d6] => { results := [.lit (.bool true)], args := [d1, d2, d3, d4, d5, d6] }
  | _ => none }
def bufferPlaysRow : OpenClaim := { program := "ytcdmmfpgeagimaadoor", sum := "f84dd4af70cbea5946abd23d2b7d3b76f85d25eb3e9690227730c3d8a7d8f9e0", func := "shale/shalelaw19.BufferPlays", spec := "bufferPlays", unfollowed := true, recurses := true, named := ["shale/api.ErrGeometry", "shale/api.ErrFull", "shale/api.ErrNumber", "shale/api.ErrSize", "shale/api.ErrField", "shale/api.ErrZero", "shale/api.ErrLong", "shale/api.ErrCode", "shale/api.ErrMany", "shale/api.ErrRecord", "shale/api.ErrDead", "shale/api.ErrOrder", "shale/api.ErrFailed", "shale/api.ErrBad", "shale/api.ErrPage", "shale/api.ErrGone", "shale/api.ErrReadOnly", "shale/api.ErrStep", "shale/api.ErrMount"], apart := false, laid := [("shale/api.ErrField", laid_shale_api_ErrField), ("shale/api.ErrNumber", laid_shale_api_ErrNumber), ("shale/api.ErrZero", laid_shale_api_ErrZero), ("shale/api.ErrLong", laid_shale_api_ErrLong), ("shale/api.ErrCode", laid_shale_api_ErrCode), ("shale/api.ErrMany", laid_shale_api_ErrMany), ("shale/api.ErrRecord", laid_shale_api_ErrRecord), ("shale/api.ErrGeometry", laid_shale_api_ErrGeometry), ("shale/api.ErrDead", laid_shale_api_ErrDead), ("shale/api.ErrOrder", laid_shale_api_ErrOrder), ("shale/api.ErrFailed", laid_shale_api_ErrFailed), ("shale/api.ErrBad", laid_shale_api_ErrBad), ("shale/api.ErrPage", laid_shale_api_ErrPage), ("shale/api.ErrFull", laid_shale_api_ErrFull), ("shale/api.ErrGone", laid_shale_api_ErrGone), ("shale/api.ErrSize", laid_shale_api_ErrSize), ("shale/api.ErrReadOnly", laid_shale_api_ErrReadOnly), ("shale/api.ErrStep", laid_shale_api_ErrStep), ("shale/api.ErrMount", laid_shale_api_ErrMount)] }
def BufferPlaysSaid : Prop := bufferPlaysRow.holds Tryd.pinned (OpenSpec.ofChange bufferPlaysSpec)

/-- ITS FALSE NEIGHBOUR: 'it returns false'. Refute it at one input. -/
def bufferPlaysWrong : ChangeSpec := { name := "bufferPlays", fn := fun _ => fun
  | [d1, d2, d3, d4, d5, d6] => { results := [.lit (.bool false)], args := [d1, d2, d3, d4, d5, d6] }
  | _ => none }
def BufferPlaysWrongFalsely : Prop := bufferPlaysRow.holds Tryd.pinned (OpenSpec.ofChange bufferPlaysWrong)

/-- 'shalelaw26.ModelPlays': WHATEVER THE INPUT: true; the input reads as it did. -/
def modelPlaysSpec : ChangeSpec := { name := "modelPlays", fn := fun _ => fun
  | [d1, d2, d3, d4, d5, d6] => { results := [.lit (.bool true)], args := [d1, d2, d3, d4, d5, d6] }
  | _ => none }
def modelPlaysRow : OpenClaim := { program := "ytcdmmfpgeagimaadoor", sum := "f84dd4af70cbea5946abd23d2b7d3b76f85d25eb3e9690227730c3d8a7d8f9e0", func := "shale/shalelaw26.ModelPlays", spec := "modelPlays", unfollowed := true, recurses := true, named := ["shale/api.ErrGeometry", "shale/api.ErrNumber", "shale/api.ErrSize"], apart := false, laid := [("shale/api.ErrNumber", laid_shale_api_ErrNumber), ("shale/api.ErrGeometry", laid_shale_api_ErrGeometry), ("shale/api.ErrSize", laid_shale_api_ErrSize)] }
def ModelPlaysSaid : Prop := modelPlaysRow.holds Tryd.pinned (OpenSpec.ofChange modelPlaysSpec)

/-- ITS FALSE NEIGHBOUR: 'it returns false'. Refute it at one input. -/
def modelPlaysWrong : ChangeSpec := { name := "modelPlays", fn := fun _ => fun
  | [d1, d2, d3, d4, d5, d6] => { results := [.lit (.bool false)], args := [d1, d2, d3, d4, d5, d6] }
  | _ => none }
def ModelPlaysWrongFalsely : Prop := modelPlaysRow.holds Tryd.pinned (OpenSpec.ofChange modelPlaysWrong)

/-- 'shalelaw26.ModelForgets': WHATEVER THE INPUT: true; the input reads as it did. -/
def modelForgetsSpec : ChangeSpec := { name := "modelForgets", fn := fun _ => fun
  | [d1, d2] => { results := [.lit (.bool true)], args := [d1, d2] }
  | _ => none }
def modelForgetsRow : OpenClaim := { program := "ytcdmmfpgeagimaadoor", sum := "f84dd4af70cbea5946abd23d2b7d3b76f85d25eb3e9690227730c3d8a7d8f9e0", func := "shale/shalelaw26.ModelForgets", spec := "modelForgets", unfollowed := true, recurses := true, named := ["shale/api.ErrGeometry", "shale/api.ErrNumber", "shale/api.ErrSize"], apart := false, laid := [("shale/api.ErrNumber", laid_shale_api_ErrNumber), ("shale/api.ErrGeometry", laid_shale_api_ErrGeometry), ("shale/api.ErrSize", laid_shale_api_ErrSize)] }
def ModelForgetsSaid : Prop := modelForgetsRow.holds Tryd.pinned (OpenSpec.ofChange modelForgetsSpec)

/-- ITS FALSE NEIGHBOUR: 'it returns false'. Refute it at one input. -/
def modelForgetsWrong : ChangeSpec := { name := "modelForgets", fn := fun _ => fun
  | [d1, d2] => { results := [.lit (.bool false)], args := [d1, d2] }
  | _ => none }
def ModelForgetsWrongFalsely : Prop := modelForgetsRow.holds Tryd.pinned (OpenSpec.ofChange modelForgetsWrong)

/- THE SECOND FORM. 'bulk': how many values and letters a reading holds, each counted each time it is reached (what is shared counts as often as it is met; a slice's spare places count too). A statement '..UptoSaid' is the law's where the arguments, and the package variables that the reading takes, are together of bulk at most 1048576: NARROWER than '..Said'. Prove '..Said' where nothing that the law and all that it calls make is longer than what came in: it says more and counts as full. Else prove '..UptoSaid'. A law counts once. -/
mutual
def uptoBulk {H : Type} : DataW H → Nat
  | .lit (.string bytes) => bytes.length + 1
  | .lit _ => 1
  | .nil => 1
  | .ptr d => uptoBulk d + 1
  | .slice elems spare => uptoBulkAll elems + uptoBulkAll spare + 1
  | .agg parts => uptoBulkAll parts + 1
  | .iface _ d => uptoBulk d + 1
  | .map entries => uptoBulkEntries entries + 1
  | .held _ => 1
def uptoBulkAll {H : Type} : List (DataW H) → Nat
  | [] => 0
  | d :: r => uptoBulk d + uptoBulkAll r
def uptoBulkEntries {H : Type} : List (Lit × DataW H) → Nat
  | [] => 0
  | x :: r => uptoBulkEntry x + uptoBulkEntries r
def uptoBulkEntry {H : Type} : Lit × DataW H → Nat
  | (.string bytes, d) => bytes.length + uptoBulk d + 1
  | (_, d) => uptoBulk d + 1
 end
def uptoSmall : (H : Type) → List (DataW H) → Bool := fun _ ds => decide (uptoBulkAll ds ≤ 1048576)
def OpenSpec.upto (s : _root_.Go.ChangeSpec) : _root_.Go.OpenSpec := { _root_.Go.OpenSpec.ofChange s with cond := some uptoSmall }

/-- 'shalelaw7.SyndromeSays', WHERE WHAT IT READS IS OF BULK AT MOST 1048576: true; the input reads as it did. -/
def syndromeSaysUptoRow : OpenClaim := { program := "ytcdmmfpgeagimaadoor", sum := "f84dd4af70cbea5946abd23d2b7d3b76f85d25eb3e9690227730c3d8a7d8f9e0", func := "shale/shalelaw7.SyndromeSays", spec := "syndromeSays", unfollowed := true, recurses := true, named := ["shale/api.ErrLong", "shale/api.ErrNumber", "shale/api.ErrCode", "shale/api.ErrField"], apart := false, laid := [("shale/api.ErrField", laid_shale_api_ErrField), ("shale/api.ErrNumber", laid_shale_api_ErrNumber), ("shale/api.ErrLong", laid_shale_api_ErrLong), ("shale/api.ErrCode", laid_shale_api_ErrCode)], narrowed := true }
def SyndromeSaysUptoSaid : Prop := syndromeSaysUptoRow.holds Tryd.pinned (OpenSpec.upto syndromeSaysSpec)

/-- 'shalelaw3.BinSays', WHERE WHAT IT READS IS OF BULK AT MOST 1048576: true; the input reads as it did. -/
def binSaysUptoRow : OpenClaim := { program := "ytcdmmfpgeagimaadoor", sum := "f84dd4af70cbea5946abd23d2b7d3b76f85d25eb3e9690227730c3d8a7d8f9e0", func := "shale/shalelaw3.BinSays", spec := "binSays", unfollowed := true, recurses := true, named := ["shale/api.ErrZero", "shale/api.ErrLong", "shale/api.ErrNumber"], apart := false, laid := [("shale/api.ErrNumber", laid_shale_api_ErrNumber), ("shale/api.ErrZero", laid_shale_api_ErrZero), ("shale/api.ErrLong", laid_shale_api_ErrLong)], narrowed := true }
def BinSaysUptoSaid : Prop := binSaysUptoRow.holds Tryd.pinned (OpenSpec.upto binSaysSpec)

/-- 'shalelaw19.BufferKeeps', WHERE WHAT IT READS IS OF BULK AT MOST 1048576: true; the input reads as it did. -/
def bufferKeepsUptoRow : OpenClaim := { program := "ytcdmmfpgeagimaadoor", sum := "f84dd4af70cbea5946abd23d2b7d3b76f85d25eb3e9690227730c3d8a7d8f9e0", func := "shale/shalelaw19.BufferKeeps", spec := "bufferKeeps", unfollowed := true, recurses := true, named := ["shale/api.ErrFull", "shale/api.ErrNumber", "shale/api.ErrSize", "shale/api.ErrGeometry"], apart := false, laid := [("shale/api.ErrNumber", laid_shale_api_ErrNumber), ("shale/api.ErrGeometry", laid_shale_api_ErrGeometry), ("shale/api.ErrFull", laid_shale_api_ErrFull), ("shale/api.ErrSize", laid_shale_api_ErrSize)], narrowed := true }
def BufferKeepsUptoSaid : Prop := bufferKeepsUptoRow.holds Tryd.pinned (OpenSpec.upto bufferKeepsSpec)

/-- 'shalelaw19.BufferOwn', WHERE WHAT IT READS IS OF BULK AT MOST 1048576: true; the input reads as it did. -/
def bufferOwnUptoRow : OpenClaim := { program := "ytcdmmfpgeagimaadoor", sum := "f84dd4af70cbea5946abd23d2b7d3b76f85d25eb3e9690227730c3d8a7d8f9e0", func := "shale/shalelaw19.BufferOwn", spec := "bufferOwn", unfollowed := true, recurses := true, named := ["shale/api.ErrFull", "shale/api.ErrNumber", "shale/api.ErrSize", "shale/api.ErrGeometry"], apart := false, laid := [("shale/api.ErrNumber", laid_shale_api_ErrNumber), ("shale/api.ErrGeometry", laid_shale_api_ErrGeometry), ("shale/api.ErrFull", laid_shale_api_ErrFull), ("shale/api.ErrSize", laid_shale_api_ErrSize)], narrowed := true }
def BufferOwnUptoSaid : Prop := bufferOwnUptoRow.holds Tryd.pinned (OpenSpec.upto bufferOwnSpec)

/-- 'shalelaw19.BufferPlays', WHERE WHAT IT READS IS OF BULK AT MOST 1048576: true; the input reads as it did. -/
def bufferPlaysUptoRow : OpenClaim := { program := "ytcdmmfpgeagimaadoor", sum := "f84dd4af70cbea5946abd23d2b7d3b76f85d25eb3e9690227730c3d8a7d8f9e0", func := "shale/shalelaw19.BufferPlays", spec := "bufferPlays", unfollowed := true, recurses := true, named := ["shale/api.ErrGeometry", "shale/api.ErrFull", "shale/api.ErrNumber", "shale/api.ErrSize", "shale/api.ErrField", "shale/api.ErrZero", "shale/api.ErrLong", "shale/api.ErrCode", "shale/api.ErrMany", "shale/api.ErrRecord", "shale/api.ErrDead", "shale/api.ErrOrder", "shale/api.ErrFailed", "shale/api.ErrBad", "shale/api.ErrPage", "shale/api.ErrGone", "shale/api.ErrReadOnly", "shale/api.ErrStep", "shale/api.ErrMount"], apart := false, laid := [("shale/api.ErrField", laid_shale_api_ErrField), ("shale/api.ErrNumber", laid_shale_api_ErrNumber), ("shale/api.ErrZero", laid_shale_api_ErrZero), ("shale/api.ErrLong", laid_shale_api_ErrLong), ("shale/api.ErrCode", laid_shale_api_ErrCode), ("shale/api.ErrMany", laid_shale_api_ErrMany), ("shale/api.ErrRecord", laid_shale_api_ErrRecord), ("shale/api.ErrGeometry", laid_shale_api_ErrGeometry), ("shale/api.ErrDead", laid_shale_api_ErrDead), ("shale/api.ErrOrder", laid_shale_api_ErrOrder), ("shale/api.ErrFailed", laid_shale_api_ErrFailed), ("shale/api.ErrBad", laid_shale_api_ErrBad), ("shale/api.ErrPage", laid_shale_api_ErrPage), ("shale/api.ErrFull", laid_shale_api_ErrFull), ("shale/api.ErrGone", laid_shale_api_ErrGone), ("shale/api.ErrSize", laid_shale_api_ErrSize), ("shale/api.ErrReadOnly", laid_shale_api_ErrReadOnly), ("shale/api.ErrStep", laid_shale_api_ErrStep), ("shale/api.ErrMount", laid_shale_api_ErrMount)], narrowed := true }
def BufferPlaysUptoSaid : Prop := bufferPlaysUptoRow.holds Tryd.pinned (OpenSpec.upto bufferPlaysSpec)

/-- 'shalelaw26.ModelPlays', WHERE WHAT IT READS IS OF BULK AT MOST 1048576: true; the input reads as it did. -/
def modelPlaysUptoRow : OpenClaim := { program := "ytcdmmfpgeagimaadoor", sum := "f84dd4af70cbea5946abd23d2b7d3b76f85d25eb3e9690227730c3d8a7d8f9e0", func := "shale/shalelaw26.ModelPlays", spec := "modelPlays", unfollowed := true, recurses := true, named := ["shale/api.ErrGeometry", "shale/api.ErrNumber", "shale/api.ErrSize"], apart := false, laid := [("shale/api.ErrNumber", laid_shale_api_ErrNumber), ("shale/api.ErrGeometry", laid_shale_api_ErrGeometry), ("shale/api.ErrSize", laid_shale_api_ErrSize)], narrowed := true }
def ModelPlaysUptoSaid : Prop := modelPlaysUptoRow.holds Tryd.pinned (OpenSpec.upto modelPlaysSpec)

/-- 'shalelaw26.ModelForgets', WHERE WHAT IT READS IS OF BULK AT MOST 1048576: true; the input reads as it did. -/
def modelForgetsUptoRow : OpenClaim := { program := "ytcdmmfpgeagimaadoor", sum := "f84dd4af70cbea5946abd23d2b7d3b76f85d25eb3e9690227730c3d8a7d8f9e0", func := "shale/shalelaw26.ModelForgets", spec := "modelForgets", unfollowed := true, recurses := true, named := ["shale/api.ErrGeometry", "shale/api.ErrNumber", "shale/api.ErrSize"], apart := false, laid := [("shale/api.ErrNumber", laid_shale_api_ErrNumber), ("shale/api.ErrGeometry", laid_shale_api_ErrGeometry), ("shale/api.ErrSize", laid_shale_api_ErrSize)], narrowed := true }
def ModelForgetsUptoSaid : Prop := modelForgetsUptoRow.holds Tryd.pinned (OpenSpec.upto modelForgetsSpec)

end Rows
end Go.Proofs.YtcdmmfpgeagimaaDoor
