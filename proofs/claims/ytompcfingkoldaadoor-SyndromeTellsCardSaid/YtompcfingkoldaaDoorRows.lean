/-
  NARROWER THAN 'FOR EVERY INPUT', by the rows' own cells (each row's printed sentence says how): EncodeApart: laid · EncodeMakes: laid · EncodeLinear: laid · SyndromeApart: laid · EncodeSays: laid · EncodeWide: laid · EncodeFlips: laid · SyndromeSays: laid · SyndromeAdds: laid · EncodeDivides: laid · SyndromeTells: laid · MinimalWhole: laid · BinSays: laid · BufferKeeps: laid · BufferOwn: laid · BufferPlays: laid · ModelPlays: laid · ModelForgets: laid.
  DERIVED. THE GIVEN ROWS OF THIS SEAT. 18 by the template 'for every input the law returns true; each argument reads behind the call as it read before'; 0 by the template 'total and deterministic' (their statements: YtompcfingkoldaaDoorTotals.lean).
  GIVEN WITH THE SEED: the statements are not yours to turn. If you find one false, say at which input.
  Laid BY PROGRAM, IN A SANDBOX (cutbox-rows.mjs): the forced cells as the released guide's own fill.sh prints them over the translation e69e792bb52c0bea… (all of the seat's roots in one cut). By AI agents, Wed Nov 11 2026. No macro, syntax, notation, axiom, sorry.
-/
import Derived.Test.YtompcfingkoldaaDoorChecked
import GoSem.Claim
import GoSem.ClaimJoined
import GoSem.ClaimMapViews
import Derived.JoinedTies
import Derived.KernelRfl
namespace Go.Proofs.YtompcfingkoldaaDoor
/- THE CELL 'sum', in the pinned program and in every row, IS THE sha256 OF THE DUMP (.gsa) THAT YtompcfingkoldaaDoorProg.lean LOADS. Nothing in Lean hashes anything: it is a label: what it is worth is what the hold of that sum in a sandbox is worth. -/
noncomputable def Tryd.pinned : Pinned := { name := "ytompcfingkoldaadoor", sum := "e69e792bb52c0beaa67e72d997cb9eedb8ce387a6f0d09b84286dd1002386e55", checked := Tryd.checked }
namespace Rows
def none {H : Type} : Left H := { results := [], args := [] }

/- WHAT THE LISTED PACKAGE-LEVEL VARIABLES READ AS WHEN THE CALL BEGINS. Each datum BY PROGRAM (the guide's laid-datum.mjs) off the statement by which the dump's own 'gosem.cut.vars' lays the variable. In a bare row this is a premise. The card (YtompcfingkoldaaDoorCards.lean) ties it to the program's text. -/
def laid_shale_api_ErrField {H : Type} : DataW H := .iface "*errors.errorString" (.ptr (.agg [.lit (.string [110, 111, 32, 115, 117, 99, 104, 32, 102, 105, 101, 108, 100])]))
def laid_shale_api_ErrNumber {H : Type} : DataW H := .iface "*errors.errorString" (.ptr (.agg [.lit (.string [110, 111, 32, 115, 117, 99, 104, 32, 110, 117, 109, 98, 101, 114])]))
def laid_shale_api_ErrLong {H : Type} : DataW H := .iface "*errors.errorString" (.ptr (.agg [.lit (.string [116, 111, 111, 32, 108, 111, 110, 103])]))
def laid_shale_api_ErrCode {H : Type} : DataW H := .iface "*errors.errorString" (.ptr (.agg [.lit (.string [110, 111, 32, 115, 117, 99, 104, 32, 99, 111, 100, 101])]))
def laid_shale_api_ErrZero {H : Type} : DataW H := .iface "*errors.errorString" (.ptr (.agg [.lit (.string [122, 101, 114, 111, 32, 104, 97, 115, 32, 110, 111, 110, 101])]))
def laid_shale_api_ErrMany {H : Type} : DataW H := .iface "*errors.errorString" (.ptr (.agg [.lit (.string [109, 111, 114, 101, 32, 105, 115, 32, 97, 109, 105, 115, 115, 32, 116, 104, 97, 110, 32, 99, 97, 110, 32, 98, 101, 32, 109, 101, 110, 100, 101, 100])]))
def laid_shale_api_ErrRecord {H : Type} : DataW H := .iface "*errors.errorString" (.ptr (.agg [.lit (.string [110, 111, 32, 114, 101, 99, 111, 114, 100])]))
def laid_shale_api_ErrGeometry {H : Type} : DataW H := .iface "*errors.errorString" (.ptr (.agg [.lit (.string [110, 111, 32, 115, 117, 99, 104, 32, 99, 104, 105, 112])]))
def laid_shale_api_ErrDead {H : Type} : DataW H := .iface "*errors.errorString" (.ptr (.agg [.lit (.string [116, 104, 101, 32, 112, 111, 119, 101, 114, 32, 105, 115, 32, 111, 102, 102])]))
def laid_shale_api_ErrOrder {H : Type} : DataW H := .iface "*errors.errorString" (.ptr (.agg [.lit (.string [105, 116, 32, 100, 111, 101, 115, 32, 110, 111, 116, 32, 99, 111, 109, 101, 32, 104, 101, 114, 101])]))
def laid_shale_api_ErrFailed {H : Type} : DataW H := .iface "*errors.errorString" (.ptr (.agg [.lit (.string [116, 104, 101, 32, 99, 104, 105, 112, 32, 102, 97, 105, 108, 101, 100])]))
def laid_shale_api_ErrBad {H : Type} : DataW H := .iface "*errors.errorString" (.ptr (.agg [.lit (.string [116, 104, 101, 32, 98, 108, 111, 99, 107, 32, 105, 115, 32, 98, 97, 100])]))
def laid_shale_api_ErrPage {H : Type} : DataW H := .iface "*errors.errorString" (.ptr (.agg [.lit (.string [116, 104, 101, 32, 112, 97, 103, 101, 32, 99, 97, 110, 110, 111, 116, 32, 98, 101, 32, 114, 101, 97, 100])]))
def laid_shale_api_ErrFull {H : Type} : DataW H := .iface "*errors.errorString" (.ptr (.agg [.lit (.string [110, 111, 32, 114, 111, 111, 109])]))
def laid_shale_api_ErrGone {H : Type} : DataW H := .iface "*errors.errorString" (.ptr (.agg [.lit (.string [105, 116, 32, 105, 115, 32, 110, 111, 116, 32, 116, 104, 101, 114, 101])]))
def laid_shale_api_ErrSize {H : Type} : DataW H := .iface "*errors.errorString" (.ptr (.agg [.lit (.string [110, 111, 32, 115, 101, 99, 116, 111, 114, 39, 115, 32, 115, 105, 122, 101])]))
def laid_shale_api_ErrReadOnly {H : Type} : DataW H := .iface "*errors.errorString" (.ptr (.agg [.lit (.string [105, 116, 32, 99, 97, 110, 32, 111, 110, 108, 121, 32, 98, 101, 32, 114, 101, 97, 100])]))
def laid_shale_api_ErrStep {H : Type} : DataW H := .iface "*errors.errorString" (.ptr (.agg [.lit (.string [110, 111, 32, 115, 117, 99, 104, 32, 115, 116, 101, 112])]))
def laid_shale_api_ErrMount {H : Type} : DataW H := .iface "*errors.errorString" (.ptr (.agg [.lit (.string [105, 116, 32, 105, 115, 32, 110, 111, 116, 32, 109, 111, 117, 110, 116, 101, 100])]))

/-- 'shalelaw6.EncodeApart': WHATEVER THE INPUT: true; the input reads as it did. -/
def encodeApartSpec : ChangeSpec := { name := "encodeApart", fn := fun _ => fun
  | [d1, d2, d3, d4, d5] => { results := [.lit (.bool true)], args := [d1, d2, d3, d4, d5] }
  | _ => none }
def encodeApartRow : OpenClaim := { program := "ytompcfingkoldaadoor", sum := "e69e792bb52c0beaa67e72d997cb9eedb8ce387a6f0d09b84286dd1002386e55", func := "shale/shalelaw6.EncodeApart", spec := "encodeApart", unfollowed := true, recurses := true, named := ["shale/api.ErrCode", "shale/api.ErrLong", "shale/api.ErrField", "shale/api.ErrNumber"], apart := false, laid := [("shale/api.ErrField", laid_shale_api_ErrField), ("shale/api.ErrNumber", laid_shale_api_ErrNumber), ("shale/api.ErrLong", laid_shale_api_ErrLong), ("shale/api.ErrCode", laid_shale_api_ErrCode)] }
def EncodeApartSaid : Prop := encodeApartRow.holds Tryd.pinned (OpenSpec.ofChange encodeApartSpec)

/-- ITS FALSE NEIGHBOUR: 'it returns false'. Refute it at one input. -/
def encodeApartWrong : ChangeSpec := { name := "encodeApart", fn := fun _ => fun
  | [d1, d2, d3, d4, d5] => { results := [.lit (.bool false)], args := [d1, d2, d3, d4, d5] }
  | _ => none }
def EncodeApartWrongFalsely : Prop := encodeApartRow.holds Tryd.pinned (OpenSpec.ofChange encodeApartWrong)

/-- 'shalelaw6.EncodeMakes': WHATEVER THE INPUT: true; the input reads as it did. -/
def encodeMakesSpec : ChangeSpec := { name := "encodeMakes", fn := fun _ => fun
  | [d1, d2, d3] => { results := [.lit (.bool true)], args := [d1, d2, d3] }
  | _ => none }
def encodeMakesRow : OpenClaim := { program := "ytompcfingkoldaadoor", sum := "e69e792bb52c0beaa67e72d997cb9eedb8ce387a6f0d09b84286dd1002386e55", func := "shale/shalelaw6.EncodeMakes", spec := "encodeMakes", unfollowed := true, recurses := true, named := ["shale/api.ErrCode", "shale/api.ErrLong", "shale/api.ErrField", "shale/api.ErrNumber", "shale/api.ErrZero", "shale/api.ErrMany", "shale/api.ErrRecord", "shale/api.ErrGeometry", "shale/api.ErrDead", "shale/api.ErrOrder", "shale/api.ErrFailed", "shale/api.ErrBad", "shale/api.ErrPage", "shale/api.ErrFull", "shale/api.ErrGone", "shale/api.ErrSize", "shale/api.ErrReadOnly", "shale/api.ErrStep", "shale/api.ErrMount"], apart := false, laid := [("shale/api.ErrField", laid_shale_api_ErrField), ("shale/api.ErrNumber", laid_shale_api_ErrNumber), ("shale/api.ErrZero", laid_shale_api_ErrZero), ("shale/api.ErrLong", laid_shale_api_ErrLong), ("shale/api.ErrCode", laid_shale_api_ErrCode), ("shale/api.ErrMany", laid_shale_api_ErrMany), ("shale/api.ErrRecord", laid_shale_api_ErrRecord), ("shale/api.ErrGeometry", laid_shale_api_ErrGeometry), ("shale/api.ErrDead", laid_shale_api_ErrDead), ("shale/api.ErrOrder", laid_shale_api_ErrOrder), ("shale/api.ErrFailed", laid_shale_api_ErrFailed), ("shale/api.ErrBad", laid_shale_api_ErrBad), ("shale/api.ErrPage", laid_shale_api_ErrPage), ("shale/api.ErrFull", laid_shale_api_ErrFull), ("shale/api.ErrGone", laid_shale_api_ErrGone), ("shale/api.ErrSize", laid_shale_api_ErrSize), ("shale/api.ErrReadOnly", laid_shale_api_ErrReadOnly), ("shale/api.ErrStep", laid_shale_api_ErrStep), ("shale/api.ErrMount", laid_shale_api_ErrMount)] }
def EncodeMakesSaid : Prop := encodeMakesRow.holds Tryd.pinned (OpenSpec.ofChange encodeMakesSpec)

/-- ITS FALSE NEIGHBOUR: 'it returns false'. Refute it at one input. -/
def encodeMakesWrong : ChangeSpec := { name := "encodeMakes", fn := fun _ => fun
  | [d1, d2, d3] => { results := [.lit (.bool false)], args := [d1, d2, d3] }
  | _ => none }
def EncodeMakesWrongFalsely : Prop := encodeMakesRow.holds Tryd.pinned (OpenSpec.ofChange encodeMakesWrong)

/-- 'shalelaw6.EncodeLinear': WHATEVER THE INPUT: true; the input reads as it did. -/
def encodeLinearSpec : ChangeSpec := { name := "encodeLinear", fn := fun _ => fun
  | [d1, d2, d3, d4, d5] => { results := [.lit (.bool true)], args := [d1, d2, d3, d4, d5] }
  | _ => none }
def encodeLinearRow : OpenClaim := { program := "ytompcfingkoldaadoor", sum := "e69e792bb52c0beaa67e72d997cb9eedb8ce387a6f0d09b84286dd1002386e55", func := "shale/shalelaw6.EncodeLinear", spec := "encodeLinear", unfollowed := true, recurses := true, named := ["shale/api.ErrCode", "shale/api.ErrLong", "shale/api.ErrField", "shale/api.ErrNumber"], apart := false, laid := [("shale/api.ErrField", laid_shale_api_ErrField), ("shale/api.ErrNumber", laid_shale_api_ErrNumber), ("shale/api.ErrLong", laid_shale_api_ErrLong), ("shale/api.ErrCode", laid_shale_api_ErrCode)] }
def EncodeLinearSaid : Prop := encodeLinearRow.holds Tryd.pinned (OpenSpec.ofChange encodeLinearSpec)

/-- ITS FALSE NEIGHBOUR: 'it returns false'. Refute it at one input. -/
def encodeLinearWrong : ChangeSpec := { name := "encodeLinear", fn := fun _ => fun
  | [d1, d2, d3, d4, d5] => { results := [.lit (.bool false)], args := [d1, d2, d3, d4, d5] }
  | _ => none }
def EncodeLinearWrongFalsely : Prop := encodeLinearRow.holds Tryd.pinned (OpenSpec.ofChange encodeLinearWrong)

/-- 'shalelaw7.SyndromeApart': WHATEVER THE INPUT: true; the input reads as it did. -/
def syndromeApartSpec : ChangeSpec := { name := "syndromeApart", fn := fun _ => fun
  | [d1, d2, d3, d4, d5] => { results := [.lit (.bool true)], args := [d1, d2, d3, d4, d5] }
  | _ => none }
def syndromeApartRow : OpenClaim := { program := "ytompcfingkoldaadoor", sum := "e69e792bb52c0beaa67e72d997cb9eedb8ce387a6f0d09b84286dd1002386e55", func := "shale/shalelaw7.SyndromeApart", spec := "syndromeApart", unfollowed := true, recurses := true, named := ["shale/api.ErrNumber", "shale/api.ErrLong", "shale/api.ErrCode", "shale/api.ErrField"], apart := false, laid := [("shale/api.ErrField", laid_shale_api_ErrField), ("shale/api.ErrNumber", laid_shale_api_ErrNumber), ("shale/api.ErrLong", laid_shale_api_ErrLong), ("shale/api.ErrCode", laid_shale_api_ErrCode)] }
def SyndromeApartSaid : Prop := syndromeApartRow.holds Tryd.pinned (OpenSpec.ofChange syndromeApartSpec)

/-- ITS FALSE NEIGHBOUR: 'it returns false'. Refute it at one input. -/
def syndromeApartWrong : ChangeSpec := { name := "syndromeApart", fn := fun _ => fun
  | [d1, d2, d3, d4, d5] => { results := [.lit (.bool false)], args := [d1, d2, d3, d4, d5] }
  | _ => none }
def SyndromeApartWrongFalsely : Prop := syndromeApartRow.holds Tryd.pinned (OpenSpec.ofChange syndromeApartWrong)

/-- 'shalelaw6.EncodeSays': WHATEVER THE INPUT: true; the input reads as it did. -/
def encodeSaysSpec : ChangeSpec := { name := "encodeSays", fn := fun _ => fun
  | [d1, d2, d3, d4, d5, d6] => { results := [.lit (.bool true)], args := [d1, d2, d3, d4, d5, d6] }
  | _ => none }
def encodeSaysRow : OpenClaim := { program := "ytompcfingkoldaadoor", sum := "e69e792bb52c0beaa67e72d997cb9eedb8ce387a6f0d09b84286dd1002386e55", func := "shale/shalelaw6.EncodeSays", spec := "encodeSays", unfollowed := true, recurses := true, named := ["shale/api.ErrLong", "shale/api.ErrNumber", "shale/api.ErrCode", "shale/api.ErrField"], apart := false, laid := [("shale/api.ErrField", laid_shale_api_ErrField), ("shale/api.ErrNumber", laid_shale_api_ErrNumber), ("shale/api.ErrLong", laid_shale_api_ErrLong), ("shale/api.ErrCode", laid_shale_api_ErrCode)] }
def EncodeSaysSaid : Prop := encodeSaysRow.holds Tryd.pinned (OpenSpec.ofChange encodeSaysSpec)

/-- ITS FALSE NEIGHBOUR: 'it returns false'. Refute it at one input. -/
def encodeSaysWrong : ChangeSpec := { name := "encodeSays", fn := fun _ => fun
  | [d1, d2, d3, d4, d5, d6] => { results := [.lit (.bool false)], args := [d1, d2, d3, d4, d5, d6] }
  | _ => none }
def EncodeSaysWrongFalsely : Prop := encodeSaysRow.holds Tryd.pinned (OpenSpec.ofChange encodeSaysWrong)

/-- 'shalelaw6.EncodeWide': WHATEVER THE INPUT: true; the input reads as it did. -/
def encodeWideSpec : ChangeSpec := { name := "encodeWide", fn := fun _ => fun
  | [d1, d2, d3, d4, d5] => { results := [.lit (.bool true)], args := [d1, d2, d3, d4, d5] }
  | _ => none }
def encodeWideRow : OpenClaim := { program := "ytompcfingkoldaadoor", sum := "e69e792bb52c0beaa67e72d997cb9eedb8ce387a6f0d09b84286dd1002386e55", func := "shale/shalelaw6.EncodeWide", spec := "encodeWide", unfollowed := true, recurses := true, named := ["shale/api.ErrCode", "shale/api.ErrLong", "shale/api.ErrField", "shale/api.ErrNumber"], apart := false, laid := [("shale/api.ErrField", laid_shale_api_ErrField), ("shale/api.ErrNumber", laid_shale_api_ErrNumber), ("shale/api.ErrLong", laid_shale_api_ErrLong), ("shale/api.ErrCode", laid_shale_api_ErrCode)] }
def EncodeWideSaid : Prop := encodeWideRow.holds Tryd.pinned (OpenSpec.ofChange encodeWideSpec)

/-- ITS FALSE NEIGHBOUR: 'it returns false'. Refute it at one input. -/
def encodeWideWrong : ChangeSpec := { name := "encodeWide", fn := fun _ => fun
  | [d1, d2, d3, d4, d5] => { results := [.lit (.bool false)], args := [d1, d2, d3, d4, d5] }
  | _ => none }
def EncodeWideWrongFalsely : Prop := encodeWideRow.holds Tryd.pinned (OpenSpec.ofChange encodeWideWrong)

/-- 'shalelaw6.EncodeFlips': WHATEVER THE INPUT: true; the input reads as it did. -/
def encodeFlipsSpec : ChangeSpec := { name := "encodeFlips", fn := fun _ => fun
  | [d1, d2, d3, d4, d5, d6] => { results := [.lit (.bool true)], args := [d1, d2, d3, d4, d5, d6] }
  | _ => none }
def encodeFlipsRow : OpenClaim := { program := "ytompcfingkoldaadoor", sum := "e69e792bb52c0beaa67e72d997cb9eedb8ce387a6f0d09b84286dd1002386e55", func := "shale/shalelaw6.EncodeFlips", spec := "encodeFlips", unfollowed := true, recurses := true, named := ["shale/api.ErrNumber", "shale/api.ErrCode", "shale/api.ErrLong", "shale/api.ErrField"], apart := false, laid := [("shale/api.ErrField", laid_shale_api_ErrField), ("shale/api.ErrNumber", laid_shale_api_ErrNumber), ("shale/api.ErrLong", laid_shale_api_ErrLong), ("shale/api.ErrCode", laid_shale_api_ErrCode)] }
def EncodeFlipsSaid : Prop := encodeFlipsRow.holds Tryd.pinned (OpenSpec.ofChange encodeFlipsSpec)

/-- ITS FALSE NEIGHBOUR: 'it returns false'. Refute it at one input. -/
def encodeFlipsWrong : ChangeSpec := { name := "encodeFlips", fn := fun _ => fun
  | [d1, d2, d3, d4, d5, d6] => { results := [.lit (.bool false)], args := [d1, d2, d3, d4, d5, d6] }
  | _ => none }
def EncodeFlipsWrongFalsely : Prop := encodeFlipsRow.holds Tryd.pinned (OpenSpec.ofChange encodeFlipsWrong)

/-- 'shalelaw7.SyndromeSays': WHATEVER THE INPUT: true; the input reads as it did. -/
def syndromeSaysSpec : ChangeSpec := { name := "syndromeSays", fn := fun _ => fun
  | [d1, d2, d3, d4, d5, d6, d7, d8] => { results := [.lit (.bool true)], args := [d1, d2, d3, d4, d5, d6, d7, d8] }
  | _ => none }
def syndromeSaysRow : OpenClaim := { program := "ytompcfingkoldaadoor", sum := "e69e792bb52c0beaa67e72d997cb9eedb8ce387a6f0d09b84286dd1002386e55", func := "shale/shalelaw7.SyndromeSays", spec := "syndromeSays", unfollowed := true, recurses := true, named := ["shale/api.ErrLong", "shale/api.ErrNumber", "shale/api.ErrCode", "shale/api.ErrField"], apart := false, laid := [("shale/api.ErrField", laid_shale_api_ErrField), ("shale/api.ErrNumber", laid_shale_api_ErrNumber), ("shale/api.ErrLong", laid_shale_api_ErrLong), ("shale/api.ErrCode", laid_shale_api_ErrCode)] }
def SyndromeSaysSaid : Prop := syndromeSaysRow.holds Tryd.pinned (OpenSpec.ofChange syndromeSaysSpec)

/-- ITS FALSE NEIGHBOUR: 'it returns false'. Refute it at one input. -/
def syndromeSaysWrong : ChangeSpec := { name := "syndromeSays", fn := fun _ => fun
  | [d1, d2, d3, d4, d5, d6, d7, d8] => { results := [.lit (.bool false)], args := [d1, d2, d3, d4, d5, d6, d7, d8] }
  | _ => none }
def SyndromeSaysWrongFalsely : Prop := syndromeSaysRow.holds Tryd.pinned (OpenSpec.ofChange syndromeSaysWrong)

/-- 'shalelaw7.SyndromeAdds': WHATEVER THE INPUT: true; the input reads as it did. -/
def syndromeAddsSpec : ChangeSpec := { name := "syndromeAdds", fn := fun _ => fun
  | [d1, d2, d3, d4, d5, d6, d7] => { results := [.lit (.bool true)], args := [d1, d2, d3, d4, d5, d6, d7] }
  | _ => none }
def syndromeAddsRow : OpenClaim := { program := "ytompcfingkoldaadoor", sum := "e69e792bb52c0beaa67e72d997cb9eedb8ce387a6f0d09b84286dd1002386e55", func := "shale/shalelaw7.SyndromeAdds", spec := "syndromeAdds", unfollowed := true, recurses := true, named := ["shale/api.ErrNumber", "shale/api.ErrLong", "shale/api.ErrCode", "shale/api.ErrField"], apart := false, laid := [("shale/api.ErrField", laid_shale_api_ErrField), ("shale/api.ErrNumber", laid_shale_api_ErrNumber), ("shale/api.ErrLong", laid_shale_api_ErrLong), ("shale/api.ErrCode", laid_shale_api_ErrCode)] }
def SyndromeAddsSaid : Prop := syndromeAddsRow.holds Tryd.pinned (OpenSpec.ofChange syndromeAddsSpec)

/-- ITS FALSE NEIGHBOUR: 'it returns false'. Refute it at one input. -/
def syndromeAddsWrong : ChangeSpec := { name := "syndromeAdds", fn := fun _ => fun
  | [d1, d2, d3, d4, d5, d6, d7] => { results := [.lit (.bool false)], args := [d1, d2, d3, d4, d5, d6, d7] }
  | _ => none }
def SyndromeAddsWrongFalsely : Prop := syndromeAddsRow.holds Tryd.pinned (OpenSpec.ofChange syndromeAddsWrong)

/-- 'shalelaw6.EncodeDivides': WHATEVER THE INPUT: true; the input reads as it did. -/
def encodeDividesSpec : ChangeSpec := { name := "encodeDivides", fn := fun _ => fun
  | [d1, d2, d3, d4] => { results := [.lit (.bool true)], args := [d1, d2, d3, d4] }
  | _ => none }
def encodeDividesRow : OpenClaim := { program := "ytompcfingkoldaadoor", sum := "e69e792bb52c0beaa67e72d997cb9eedb8ce387a6f0d09b84286dd1002386e55", func := "shale/shalelaw6.EncodeDivides", spec := "encodeDivides", unfollowed := true, recurses := true, named := ["shale/api.ErrCode", "shale/api.ErrLong", "shale/api.ErrField", "shale/api.ErrNumber", "shale/api.ErrZero"], apart := false, laid := [("shale/api.ErrField", laid_shale_api_ErrField), ("shale/api.ErrNumber", laid_shale_api_ErrNumber), ("shale/api.ErrZero", laid_shale_api_ErrZero), ("shale/api.ErrLong", laid_shale_api_ErrLong), ("shale/api.ErrCode", laid_shale_api_ErrCode)] }
def EncodeDividesSaid : Prop := encodeDividesRow.holds Tryd.pinned (OpenSpec.ofChange encodeDividesSpec)

/-- ITS FALSE NEIGHBOUR: 'it returns false'. Refute it at one input. -/
def encodeDividesWrong : ChangeSpec := { name := "encodeDivides", fn := fun _ => fun
  | [d1, d2, d3, d4] => { results := [.lit (.bool false)], args := [d1, d2, d3, d4] }
  | _ => none }
def EncodeDividesWrongFalsely : Prop := encodeDividesRow.holds Tryd.pinned (OpenSpec.ofChange encodeDividesWrong)

/-- 'shalelaw7.SyndromeTells': WHATEVER THE INPUT: true; the input reads as it did. -/
def syndromeTellsSpec : ChangeSpec := { name := "syndromeTells", fn := fun _ => fun
  | [d1, d2, d3, d4, d5] => { results := [.lit (.bool true)], args := [d1, d2, d3, d4, d5] }
  | _ => none }
def syndromeTellsRow : OpenClaim := { program := "ytompcfingkoldaadoor", sum := "e69e792bb52c0beaa67e72d997cb9eedb8ce387a6f0d09b84286dd1002386e55", func := "shale/shalelaw7.SyndromeTells", spec := "syndromeTells", unfollowed := true, recurses := true, named := ["shale/api.ErrNumber", "shale/api.ErrLong", "shale/api.ErrCode", "shale/api.ErrField"], apart := false, laid := [("shale/api.ErrField", laid_shale_api_ErrField), ("shale/api.ErrNumber", laid_shale_api_ErrNumber), ("shale/api.ErrLong", laid_shale_api_ErrLong), ("shale/api.ErrCode", laid_shale_api_ErrCode)] }
def SyndromeTellsSaid : Prop := syndromeTellsRow.holds Tryd.pinned (OpenSpec.ofChange syndromeTellsSpec)

/-- ITS FALSE NEIGHBOUR: 'it returns false'. Refute it at one input. -/
def syndromeTellsWrong : ChangeSpec := { name := "syndromeTells", fn := fun _ => fun
  | [d1, d2, d3, d4, d5] => { results := [.lit (.bool false)], args := [d1, d2, d3, d4, d5] }
  | _ => none }
def SyndromeTellsWrongFalsely : Prop := syndromeTellsRow.holds Tryd.pinned (OpenSpec.ofChange syndromeTellsWrong)

/-- 'shalelaw5.MinimalWhole': WHATEVER THE INPUT: true; the input reads as it did. -/
def minimalWholeSpec : ChangeSpec := { name := "minimalWhole", fn := fun _ => fun
  | [d] => { results := [.lit (.bool true)], args := [d] }
  | _ => none }
def minimalWholeRow : OpenClaim := { program := "ytompcfingkoldaadoor", sum := "e69e792bb52c0beaa67e72d997cb9eedb8ce387a6f0d09b84286dd1002386e55", func := "shale/shalelaw5.MinimalWhole", spec := "minimalWhole", unfollowed := true, recurses := true, named := ["shale/api.ErrCode", "shale/api.ErrField", "shale/api.ErrNumber", "shale/api.ErrLong"], apart := false, laid := [("shale/api.ErrField", laid_shale_api_ErrField), ("shale/api.ErrNumber", laid_shale_api_ErrNumber), ("shale/api.ErrLong", laid_shale_api_ErrLong), ("shale/api.ErrCode", laid_shale_api_ErrCode)] }
def MinimalWholeSaid : Prop := minimalWholeRow.holds Tryd.pinned (OpenSpec.ofChange minimalWholeSpec)

/-- ITS FALSE NEIGHBOUR: 'it returns false'. Refute it at one input. -/
def minimalWholeWrong : ChangeSpec := { name := "minimalWhole", fn := fun _ => fun
  | [d] => { results := [.lit (.bool false)], args := [d] }
  | _ => none }
def MinimalWholeWrongFalsely : Prop := minimalWholeRow.holds Tryd.pinned (OpenSpec.ofChange minimalWholeWrong)

/-- 'shalelaw3.BinSays': WHATEVER THE INPUT: true; the input reads as it did. -/
def binSaysSpec : ChangeSpec := { name := "binSays", fn := fun _ => fun
  | [d1, d2, d3, d4] => { results := [.lit (.bool true)], args := [d1, d2, d3, d4] }
  | _ => none }
def binSaysRow : OpenClaim := { program := "ytompcfingkoldaadoor", sum := "e69e792bb52c0beaa67e72d997cb9eedb8ce387a6f0d09b84286dd1002386e55", func := "shale/shalelaw3.BinSays", spec := "binSays", unfollowed := true, recurses := true, named := ["shale/api.ErrZero", "shale/api.ErrLong", "shale/api.ErrNumber"], apart := false, laid := [("shale/api.ErrNumber", laid_shale_api_ErrNumber), ("shale/api.ErrZero", laid_shale_api_ErrZero), ("shale/api.ErrLong", laid_shale_api_ErrLong)] }
def BinSaysSaid : Prop := binSaysRow.holds Tryd.pinned (OpenSpec.ofChange binSaysSpec)

/-- ITS FALSE NEIGHBOUR: 'it returns false'. Refute it at one input. -/
def binSaysWrong : ChangeSpec := { name := "binSays", fn := fun _ => fun
  | [d1, d2, d3, d4] => { results := [.lit (.bool false)], args := [d1, d2, d3, d4] }
  | _ => none }
def BinSaysWrongFalsely : Prop := binSaysRow.holds Tryd.pinned (OpenSpec.ofChange binSaysWrong)

/-- 'shalelaw19.BufferKeeps': WHATEVER THE INPUT: true; the input reads as it did. -/
def bufferKeepsSpec : ChangeSpec := { name := "bufferKeeps", fn := fun _ => fun
  | [d1, d2] => { results := [.lit (.bool true)], args := [d1, d2] }
  | _ => none }
def bufferKeepsRow : OpenClaim := { program := "ytompcfingkoldaadoor", sum := "e69e792bb52c0beaa67e72d997cb9eedb8ce387a6f0d09b84286dd1002386e55", func := "shale/shalelaw19.BufferKeeps", spec := "bufferKeeps", unfollowed := true, recurses := true, named := ["shale/api.ErrFull", "shale/api.ErrNumber", "shale/api.ErrSize", "shale/api.ErrGeometry"], apart := false, laid := [("shale/api.ErrNumber", laid_shale_api_ErrNumber), ("shale/api.ErrGeometry", laid_shale_api_ErrGeometry), ("shale/api.ErrFull", laid_shale_api_ErrFull), ("shale/api.ErrSize", laid_shale_api_ErrSize)] }
def BufferKeepsSaid : Prop := bufferKeepsRow.holds Tryd.pinned (OpenSpec.ofChange bufferKeepsSpec)

/-- ITS FALSE NEIGHBOUR: 'it returns false'. Refute it at one input. -/
def bufferKeepsWrong : ChangeSpec := { name := "bufferKeeps", fn := fun _ => fun
  | [d1, d2] => { results := [.lit (.bool false)], args := [d1, d2] }
  | _ => none }
def BufferKeepsWrongFalsely : Prop := bufferKeepsRow.holds Tryd.pinned (OpenSpec.ofChange bufferKeepsWrong)

/-- 'shalelaw19.BufferOwn': WHATEVER THE INPUT: true; the input reads as it did. -/
def bufferOwnSpec : ChangeSpec := { name := "bufferOwn", fn := fun _ => fun
  | [d1, d2] => { results := [.lit (.bool true)], args := [d1, d2] }
  | _ => none }
def bufferOwnRow : OpenClaim := { program := "ytompcfingkoldaadoor", sum := "e69e792bb52c0beaa67e72d997cb9eedb8ce387a6f0d09b84286dd1002386e55", func := "shale/shalelaw19.BufferOwn", spec := "bufferOwn", unfollowed := true, recurses := true, named := ["shale/api.ErrFull", "shale/api.ErrNumber", "shale/api.ErrSize", "shale/api.ErrGeometry"], apart := false, laid := [("shale/api.ErrNumber", laid_shale_api_ErrNumber), ("shale/api.ErrGeometry", laid_shale_api_ErrGeometry), ("shale/api.ErrFull", laid_shale_api_ErrFull), ("shale/api.ErrSize", laid_shale_api_ErrSize)] }
def BufferOwnSaid : Prop := bufferOwnRow.holds Tryd.pinned (OpenSpec.ofChange bufferOwnSpec)

/-- ITS FALSE NEIGHBOUR: 'it returns false'. Refute it at one input. -/
def bufferOwnWrong : ChangeSpec := { name := "bufferOwn", fn := fun _ => fun
  | [d1, d2] => { results := [.lit (.bool false)], args := [d1, d2] }
  | _ => none }
def BufferOwnWrongFalsely : Prop := bufferOwnRow.holds Tryd.pinned (OpenSpec.ofChange bufferOwnWrong)

/-- 'shalelaw19.BufferPlays': WHATEVER THE INPUT: true; the input reads as it did. -/
def bufferPlaysSpec : ChangeSpec := { name := "bufferPlays", fn := fun _ => fun
  | [d1, d2, d3, d4, d5, d6] => { results := [.lit (.bool true)], args := [d1, d2, d3, d4, d5, d6] }
  | _ => none }
def bufferPlaysRow : OpenClaim := { program := "ytompcfingkoldaadoor", sum := "e69e792bb52c0beaa67e72d997cb9eedb8ce387a6f0d09b84286dd1002386e55", func := "shale/shalelaw19.BufferPlays", spec := "bufferPlays", unfollowed := true, recurses := true, named := ["shale/api.ErrGeometry", "shale/api.ErrFull", "shale/api.ErrNumber", "shale/api.ErrSize", "shale/api.ErrField", "shale/api.ErrZero", "shale/api.ErrLong", "shale/api.ErrCode", "shale/api.ErrMany", "shale/api.ErrRecord", "shale/api.ErrDead", "shale/api.ErrOrder", "shale/api.ErrFailed", "shale/api.ErrBad", "shale/api.ErrPage", "shale/api.ErrGone", "shale/api.ErrReadOnly", "shale/api.ErrStep", "shale/api.ErrMount"], apart := false, laid := [("shale/api.ErrField", laid_shale_api_ErrField), ("shale/api.ErrNumber", laid_shale_api_ErrNumber), ("shale/api.ErrZero", laid_shale_api_ErrZero), ("shale/api.ErrLong", laid_shale_api_ErrLong), ("shale/api.ErrCode", laid_shale_api_ErrCode), ("shale/api.ErrMany", laid_shale_api_ErrMany), ("shale/api.ErrRecord", laid_shale_api_ErrRecord), ("shale/api.ErrGeometry", laid_shale_api_ErrGeometry), ("shale/api.ErrDead", laid_shale_api_ErrDead), ("shale/api.ErrOrder", laid_shale_api_ErrOrder), ("shale/api.ErrFailed", laid_shale_api_ErrFailed), ("shale/api.ErrBad", laid_shale_api_ErrBad), ("shale/api.ErrPage", laid_shale_api_ErrPage), ("shale/api.ErrFull", laid_shale_api_ErrFull), ("shale/api.ErrGone", laid_shale_api_ErrGone), ("shale/api.ErrSize", laid_shale_api_ErrSize), ("shale/api.ErrReadOnly", laid_shale_api_ErrReadOnly), ("shale/api.ErrStep", laid_shale_api_ErrStep), ("shale/api.ErrMount", laid_shale_api_ErrMount)] }
def BufferPlaysSaid : Prop := bufferPlaysRow.holds Tryd.pinned (OpenSpec.ofChange bufferPlaysSpec)

/-- ITS FALSE NEIGHBOUR: 'it returns false'. Refute it at one input. -/
def bufferPlaysWrong : ChangeSpec := { name := "bufferPlays", fn := fun _ => fun
  | [d1, d2, d3, d4, d5, d6] => { results := [.lit (.bool false)], args := [d1, d2, d3, d4, d5, d6] }
  | _ => none }
def BufferPlaysWrongFalsely : Prop := bufferPlaysRow.holds Tryd.pinned (OpenSpec.ofChange bufferPlaysWrong)

/-- 'shalelaw26.ModelPlays': WHATEVER THE INPUT: true; the input reads as it did. -/
def modelPlaysSpec : ChangeSpec := { name := "modelPlays", fn := fun _ => fun
  | [d1, d2, d3, d4, d5, d6] => { results := [.lit (.bool true)], args := [d1, d2, d3, d4, d5, d6] }
  | _ => none }
def modelPlaysRow : OpenClaim := { program := "ytompcfingkoldaadoor", sum := "e69e792bb52c0beaa67e72d997cb9eedb8ce387a6f0d09b84286dd1002386e55", func := "shale/shalelaw26.ModelPlays", spec := "modelPlays", unfollowed := true, recurses := true, named := ["shale/api.ErrGeometry", "shale/api.ErrNumber", "shale/api.ErrSize"], apart := false, laid := [("shale/api.ErrNumber", laid_shale_api_ErrNumber), ("shale/api.ErrGeometry", laid_shale_api_ErrGeometry), ("shale/api.ErrSize", laid_shale_api_ErrSize)] }
def ModelPlaysSaid : Prop := modelPlaysRow.holds Tryd.pinned (OpenSpec.ofChange modelPlaysSpec)

/-- ITS FALSE NEIGHBOUR: 'it returns false'. Refute it at one input. -/
def modelPlaysWrong : ChangeSpec := { name := "modelPlays", fn := fun _ => fun
  | [d1, d2, d3, d4, d5, d6] => { results := [.lit (.bool false)], args := [d1, d2, d3, d4, d5, d6] }
  | _ => none }
def ModelPlaysWrongFalsely : Prop := modelPlaysRow.holds Tryd.pinned (OpenSpec.ofChange modelPlaysWrong)

/-- 'shalelaw26.ModelForgets': WHATEVER THE INPUT: true; the input reads as it did. -/
def modelForgetsSpec : ChangeSpec := { name := "modelForgets", fn := fun _ => fun
  | [d1, d2] => { results := [.lit (.bool true)], args := [d1, d2] }
  | _ => none }
def modelForgetsRow : OpenClaim := { program := "ytompcfingkoldaadoor", sum := "e69e792bb52c0beaa67e72d997cb9eedb8ce387a6f0d09b84286dd1002386e55", func := "shale/shalelaw26.ModelForgets", spec := "modelForgets", unfollowed := true, recurses := true, named := ["shale/api.ErrGeometry", "shale/api.ErrNumber", "shale/api.ErrSize"], apart := false, laid := [("shale/api.ErrNumber", laid_shale_api_ErrNumber), ("shale/api.ErrGeometry", laid_shale_api_ErrGeometry), ("shale/api.ErrSize", laid_shale_api_ErrSize)] }
def ModelForgetsSaid : Prop := modelForgetsRow.holds Tryd.pinned (OpenSpec.ofChange modelForgetsSpec)

/-- ITS FALSE NEIGHBOUR: 'it returns false'. Refute it at one input. -/
def modelForgetsWrong : ChangeSpec := { name := "modelForgets", fn := fun _ => fun
  | [d1, d2] => { results := [.lit (.bool false)], args := [d1, d2] }
  | _ => none }
def ModelForgetsWrongFalsely : Prop := modelForgetsRow.holds Tryd.pinned (OpenSpec.ofChange modelForgetsWrong)

/- THE SECOND FORM. 'bulk': how many values and letters a reading holds, each counted each time it is reached (what is shared counts as often as it is met; a slice's spare places count too). A statement '..UptoSaid' is the law's where the arguments, and the package variables that the reading takes, are together of bulk at most 1048576: NARROWER than '..Said'. Prove '..Said' where nothing that the law and all that it calls make is longer than what came in: it says more and counts as full. Else prove '..UptoSaid'. A law counts once. -/
mutual
def uptoBulk {H : Type} : DataW H → Nat
  | .lit (.string bytes) => bytes.length + 1
  | .lit _ => 1
  | .nil => 1
  | .ptr d => uptoBulk d + 1
  | .slice elems spare => uptoBulkAll elems + uptoBulkAll spare + 1
  | .agg parts => uptoBulkAll parts + 1
  | .iface _ d => uptoBulk d + 1
  | .map entries => uptoBulkEntries entries + 1
  | .held _ => 1
def uptoBulkAll {H : Type} : List (DataW H) → Nat
  | [] => 0
  | d :: r => uptoBulk d + uptoBulkAll r
def uptoBulkEntries {H : Type} : List (Lit × DataW H) → Nat
  | [] => 0
  | x :: r => uptoBulkEntry x + uptoBulkEntries r
def uptoBulkEntry {H : Type} : Lit × DataW H → Nat
  | (.string bytes, d) => bytes.length + uptoBulk d + 1
  | (_, d) => uptoBulk d + 1
 end
def uptoSmall : (H : Type) → List (DataW H) → Bool := fun _ ds => decide (uptoBulkAll ds ≤ 1048576)
def OpenSpec.upto (s : _root_.Go.ChangeSpec) : _root_.Go.OpenSpec := { _root_.Go.OpenSpec.ofChange s with cond := some uptoSmall }

/-- 'shalelaw6.EncodeApart', WHERE WHAT IT READS IS OF BULK AT MOST 1048576: true; the input reads as it did. -/
def encodeApartUptoRow : OpenClaim := { program := "ytompcfingkoldaadoor", sum := "e69e792bb52c0beaa67e72d997cb9eedb8ce387a6f0d09b84286dd1002386e55", func := "shale/shalelaw6.EncodeApart", spec := "encodeApart", unfollowed := true, recurses := true, named := ["shale/api.ErrCode", "shale/api.ErrLong", "shale/api.ErrField", "shale/api.ErrNumber"], apart := false, laid := [("shale/api.ErrField", laid_shale_api_ErrField), ("shale/api.ErrNumber", laid_shale_api_ErrNumber), ("shale/api.ErrLong", laid_shale_api_ErrLong), ("shale/api.ErrCode", laid_shale_api_ErrCode)], narrowed := true }
def EncodeApartUptoSaid : Prop := encodeApartUptoRow.holds Tryd.pinned (OpenSpec.upto encodeApartSpec)

/-- 'shalelaw6.EncodeMakes', WHERE WHAT IT READS IS OF BULK AT MOST 1048576: true; the input reads as it did. -/
def encodeMakesUptoRow : OpenClaim := { program := "ytompcfingkoldaadoor", sum := "e69e792bb52c0beaa67e72d997cb9eedb8ce387a6f0d09b84286dd1002386e55", func := "shale/shalelaw6.EncodeMakes", spec := "encodeMakes", unfollowed := true, recurses := true, named := ["shale/api.ErrCode", "shale/api.ErrLong", "shale/api.ErrField", "shale/api.ErrNumber", "shale/api.ErrZero", "shale/api.ErrMany", "shale/api.ErrRecord", "shale/api.ErrGeometry", "shale/api.ErrDead", "shale/api.ErrOrder", "shale/api.ErrFailed", "shale/api.ErrBad", "shale/api.ErrPage", "shale/api.ErrFull", "shale/api.ErrGone", "shale/api.ErrSize", "shale/api.ErrReadOnly", "shale/api.ErrStep", "shale/api.ErrMount"], apart := false, laid := [("shale/api.ErrField", laid_shale_api_ErrField), ("shale/api.ErrNumber", laid_shale_api_ErrNumber), ("shale/api.ErrZero", laid_shale_api_ErrZero), ("shale/api.ErrLong", laid_shale_api_ErrLong), ("shale/api.ErrCode", laid_shale_api_ErrCode), ("shale/api.ErrMany", laid_shale_api_ErrMany), ("shale/api.ErrRecord", laid_shale_api_ErrRecord), ("shale/api.ErrGeometry", laid_shale_api_ErrGeometry), ("shale/api.ErrDead", laid_shale_api_ErrDead), ("shale/api.ErrOrder", laid_shale_api_ErrOrder), ("shale/api.ErrFailed", laid_shale_api_ErrFailed), ("shale/api.ErrBad", laid_shale_api_ErrBad), ("shale/api.ErrPage", laid_shale_api_ErrPage), ("shale/api.ErrFull", laid_shale_api_ErrFull), ("shale/api.ErrGone", laid_shale_api_ErrGone), ("shale/api.ErrSize", laid_shale_api_ErrSize), ("shale/api.ErrReadOnly", laid_shale_api_ErrReadOnly), ("shale/api.ErrStep", laid_shale_api_ErrStep), ("shale/api.ErrMount", laid_shale_api_ErrMount)], narrowed := true }
def EncodeMakesUptoSaid : Prop := encodeMakesUptoRow.holds Tryd.pinned (OpenSpec.upto encodeMakesSpec)

/-- 'shalelaw6.EncodeLinear', WHERE WHAT IT READS IS OF BULK AT MOST 1048576: true; the input reads as it did. -/
def encodeLinearUptoRow : OpenClaim := { program := "ytompcfingkoldaadoor", sum := "e69e792bb52c0beaa67e72d997cb9eedb8ce387a6f0d09b84286dd1002386e55", func := "shale/shalelaw6.EncodeLinear", spec := "encodeLinear", unfollowed := true, recurses := true, named := ["shale/api.ErrCode", "shale/api.ErrLong", "shale/api.ErrField", "shale/api.ErrNumber"], apart := false, laid := [("shale/api.ErrField", laid_shale_api_ErrField), ("shale/api.ErrNumber", laid_shale_api_ErrNumber), ("shale/api.ErrLong", laid_shale_api_ErrLong), ("shale/api.ErrCode", laid_shale_api_ErrCode)], narrowed := true }
def EncodeLinearUptoSaid : Prop := encodeLinearUptoRow.holds Tryd.pinned (OpenSpec.upto encodeLinearSpec)

/-- 'shalelaw7.SyndromeApart', WHERE WHAT IT READS IS OF BULK AT MOST 1048576: true; the input reads as it did. -/
def syndromeApartUptoRow : OpenClaim := { program := "ytompcfingkoldaadoor", sum := "e69e792bb52c0beaa67e72d997cb9eedb8ce387a6f0d09b84286dd1002386e55", func := "shale/shalelaw7.SyndromeApart", spec := "syndromeApart", unfollowed := true, recurses := true, named := ["shale/api.ErrNumber", "shale/api.ErrLong", "shale/api.ErrCode", "shale/api.ErrField"], apart := false, laid := [("shale/api.ErrField", laid_shale_api_ErrField), ("shale/api.ErrNumber", laid_shale_api_ErrNumber), ("shale/api.ErrLong", laid_shale_api_ErrLong), ("shale/api.ErrCode", laid_shale_api_ErrCode)], narrowed := true }
def SyndromeApartUptoSaid : Prop := syndromeApartUptoRow.holds Tryd.pinned (OpenSpec.upto syndromeApartSpec)

/-- 'shalelaw6.EncodeSays', WHERE WHAT IT READS IS OF BULK AT MOST 1048576: true; the input reads as it did. -/
def encodeSaysUptoRow : OpenClaim := { program := "ytompcfingkoldaadoor", sum := "e69e792bb52c0beaa67e72d997cb9eedb8ce387a6f0d09b84286dd1002386e55", func := "shale/shalelaw6.EncodeSays", spec := "encodeSays", unfollowed := true, recurses := true, named := ["shale/api.ErrLong", "shale/api.ErrNumber", "shale/api.ErrCode", "shale/api.ErrField"], apart := false, laid := [("shale/api.ErrField", laid_shale_api_ErrField), ("shale/api.ErrNumber", laid_shale_api_ErrNumber), ("shale/api.ErrLong", laid_shale_api_ErrLong), ("shale/api.ErrCode", laid_shale_api_ErrCode)], narrowed := true }
def EncodeSaysUptoSaid : Prop := encodeSaysUptoRow.holds Tryd.pinned (OpenSpec.upto encodeSaysSpec)

/-- 'shalelaw6.EncodeWide', WHERE WHAT IT READS IS OF BULK AT MOST 1048576: true; the input reads as it did. -/
def encodeWideUptoRow : OpenClaim := { program := "ytompcfingkoldaadoor", sum := "e69e792bb52c0beaa67e72d997cb9eedb8ce387a6f0d09b84286dd1002386e55", func := "shale/shalelaw6.EncodeWide", spec := "encodeWide", unfollowed := true, recurses := true, named := ["shale/api.ErrCode", "shale/api.ErrLong", "shale/api.ErrField", "shale/api.ErrNumber"], apart := false, laid := [("shale/api.ErrField", laid_shale_api_ErrField), ("shale/api.ErrNumber", laid_shale_api_ErrNumber), ("shale/api.ErrLong", laid_shale_api_ErrLong), ("shale/api.ErrCode", laid_shale_api_ErrCode)], narrowed := true }
def EncodeWideUptoSaid : Prop := encodeWideUptoRow.holds Tryd.pinned (OpenSpec.upto encodeWideSpec)

/-- 'shalelaw6.EncodeFlips', WHERE WHAT IT READS IS OF BULK AT MOST 1048576: true; the input reads as it did. -/
def encodeFlipsUptoRow : OpenClaim := { program := "ytompcfingkoldaadoor", sum := "e69e792bb52c0beaa67e72d997cb9eedb8ce387a6f0d09b84286dd1002386e55", func := "shale/shalelaw6.EncodeFlips", spec := "encodeFlips", unfollowed := true, recurses := true, named := ["shale/api.ErrNumber", "shale/api.ErrCode", "shale/api.ErrLong", "shale/api.ErrField"], apart := false, laid := [("shale/api.ErrField", laid_shale_api_ErrField), ("shale/api.ErrNumber", laid_shale_api_ErrNumber), ("shale/api.ErrLong", laid_shale_api_ErrLong), ("shale/api.ErrCode", laid_shale_api_ErrCode)], narrowed := true }
def EncodeFlipsUptoSaid : Prop := encodeFlipsUptoRow.holds Tryd.pinned (OpenSpec.upto encodeFlipsSpec)

/-- 'shalelaw7.SyndromeSays', WHERE WHAT IT READS IS OF BULK AT MOST 1048576: true; the input reads as it did. -/
def syndromeSaysUptoRow : OpenClaim := { program := "ytompcfingkoldaadoor", sum := "e69e792bb52c0beaa67e72d997cb9eedb8ce387a6f0d09b84286dd1002386e55", func := "shale/shalelaw7.SyndromeSays", spec := "syndromeSays", unfollowed := true, recurses := true, named := ["shale/api.ErrLong", "shale/api.ErrNumber", "shale/api.ErrCode", "shale/api.ErrField"], apart := false, laid := [("shale/api.ErrField", laid_shale_api_ErrField), ("shale/api.ErrNumber", laid_shale_api_ErrNumber), ("shale/api.ErrLong", laid_shale_api_ErrLong), ("shale/api.ErrCode", laid_shale_api_ErrCode)], narrowed := true }
def SyndromeSaysUptoSaid : Prop := syndromeSaysUptoRow.holds Tryd.pinned (OpenSpec.upto syndromeSaysSpec)

/-- 'shalelaw7.SyndromeAdds', WHERE WHAT IT READS IS OF BULK AT MOST 1048576: true; the input reads as it did. -/
def syndromeAddsUptoRow : OpenClaim := { program := "ytompcfingkoldaadoor", sum := "e69e792bb52c0beaa67e72d997cb9eedb8ce387a6f0d09b84286dd1002386e55", func := "shale/shalelaw7.SyndromeAdds", spec := "syndromeAdds", unfollowed := true, recurses := true, named := ["shale/api.ErrNumber", "shale/api.ErrLong", "shale/api.ErrCode", "shale/api.ErrField"], apart := false, laid := [("shale/api.ErrField", laid_shale_api_ErrField), ("shale/api.ErrNumber", laid_shale_api_ErrNumber), ("shale/api.ErrLong", laid_shale_api_ErrLong), ("shale/api.ErrCode", laid_shale_api_ErrCode)], narrowed := true }
def SyndromeAddsUptoSaid : Prop := syndromeAddsUptoRow.holds Tryd.pinned (OpenSpec.upto syndromeAddsSpec)

/-- 'shalelaw6.EncodeDivides', WHERE WHAT IT READS IS OF BULK AT MOST 1048576: true; the input reads as it did. -/
def encodeDividesUptoRow : OpenClaim := { program := "ytompcfingkoldaadoor", sum := "e69e792bb52c0beaa67e72d997cb9eedb8ce387a6f0d09b84286dd1002386e55", func := "shale/shalelaw6.EncodeDivides", spec := "encodeDivides", unfollowed := true, recurses := true, named := ["shale/api.ErrCode", "shale/api.ErrLong", "shale/api.ErrField", "shale/api.ErrNumber", "shale/api.ErrZero"], apart := false, laid := [("shale/api.ErrField", laid_shale_api_ErrField), ("shale/api.ErrNumber", laid_shale_api_ErrNumber), ("shale/api.ErrZero", laid_shale_api_ErrZero), ("shale/api.ErrLong", laid_shale_api_ErrLong), ("shale/api.ErrCode", laid_shale_api_ErrCode)], narrowed := true }
def EncodeDividesUptoSaid : Prop := encodeDividesUptoRow.holds Tryd.pinned (OpenSpec.upto encodeDividesSpec)

/-- 'shalelaw7.SyndromeTells', WHERE WHAT IT READS IS OF BULK AT MOST 1048576: true; the input reads as it did. -/
def syndromeTellsUptoRow : OpenClaim := { program := "ytompcfingkoldaadoor", sum := "e69e792bb52c0beaa67e72d997cb9eedb8ce387a6f0d09b84286dd1002386e55", func := "shale/shalelaw7.SyndromeTells", spec := "syndromeTells", unfollowed := true, recurses := true, named := ["shale/api.ErrNumber", "shale/api.ErrLong", "shale/api.ErrCode", "shale/api.ErrField"], apart := false, laid := [("shale/api.ErrField", laid_shale_api_ErrField), ("shale/api.ErrNumber", laid_shale_api_ErrNumber), ("shale/api.ErrLong", laid_shale_api_ErrLong), ("shale/api.ErrCode", laid_shale_api_ErrCode)], narrowed := true }
def SyndromeTellsUptoSaid : Prop := syndromeTellsUptoRow.holds Tryd.pinned (OpenSpec.upto syndromeTellsSpec)

/-- 'shalelaw5.MinimalWhole', WHERE WHAT IT READS IS OF BULK AT MOST 1048576: true; the input reads as it did. -/
def minimalWholeUptoRow : OpenClaim := { program := "ytompcfingkoldaadoor", sum := "e69e792bb52c0beaa67e72d997cb9eedb8ce387a6f0d09b84286dd1002386e55", func := "shale/shalelaw5.MinimalWhole", spec := "minimalWhole", unfollowed := true, recurses := true, named := ["shale/api.ErrCode", "shale/api.ErrField", "shale/api.ErrNumber", "shale/api.ErrLong"], apart := false, laid := [("shale/api.ErrField", laid_shale_api_ErrField), ("shale/api.ErrNumber", laid_shale_api_ErrNumber), ("shale/api.ErrLong", laid_shale_api_ErrLong), ("shale/api.ErrCode", laid_shale_api_ErrCode)], narrowed := true }
def MinimalWholeUptoSaid : Prop := minimalWholeUptoRow.holds Tryd.pinned (OpenSpec.upto minimalWholeSpec)

/-- 'shalelaw3.BinSays', WHERE WHAT IT READS IS OF BULK AT MOST 1048576: true; the input reads as it did. -/
def binSaysUptoRow : OpenClaim := { program := "ytompcfingkoldaadoor", sum := "e69e792bb52c0beaa67e72d997cb9eedb8ce387a6f0d09b84286dd1002386e55", func := "shale/shalelaw3.BinSays", spec := "binSays", unfollowed := true, recurses := true, named := ["shale/api.ErrZero", "shale/api.ErrLong", "shale/api.ErrNumber"], apart := false, laid := [("shale/api.ErrNumber", laid_shale_api_ErrNumber), ("shale/api.ErrZero", laid_shale_api_ErrZero), ("shale/api.ErrLong", laid_shale_api_ErrLong)], narrowed := true }
def BinSaysUptoSaid : Prop := binSaysUptoRow.holds Tryd.pinned (OpenSpec.upto binSaysSpec)

/-- 'shalelaw19.BufferKeeps', WHERE WHAT IT READS IS OF BULK AT MOST 1048576: true; the input reads as it did. -/
def bufferKeepsUptoRow : OpenClaim := { program := "ytompcfingkoldaadoor", sum := "e69e792bb52c0beaa67e72d997cb9eedb8ce387a6f0d09b84286dd1002386e55", func := "shale/shalelaw19.BufferKeeps", spec := "bufferKeeps", unfollowed := true, recurses := true, named := ["shale/api.ErrFull", "shale/api.ErrNumber", "shale/api.ErrSize", "shale/api.ErrGeometry"], apart := false, laid := [("shale/api.ErrNumber", laid_shale_api_ErrNumber), ("shale/api.ErrGeometry", laid_shale_api_ErrGeometry), ("shale/api.ErrFull", laid_shale_api_ErrFull), ("shale/api.ErrSize", laid_shale_api_ErrSize)], narrowed := true }
def BufferKeepsUptoSaid : Prop := bufferKeepsUptoRow.holds Tryd.pinned (OpenSpec.upto bufferKeepsSpec)

/-- 'shalelaw19.BufferOwn', WHERE WHAT IT READS IS OF BULK AT MOST 1048576: true; the input reads as it did. -/
def bufferOwnUptoRow : OpenClaim := { program := "ytompcfingkoldaadoor", sum := "e69e792bb52c0beaa67e72d997cb9eedb8ce387a6f0d09b84286dd1002386e55", func := "shale/shalelaw19.BufferOwn", spec := "bufferOwn", unfollowed := true, recurses := true, named := ["shale/api.ErrFull", "shale/api.ErrNumber", "shale/api.ErrSize", "shale/api.ErrGeometry"], apart := false, laid := [("shale/api.ErrNumber", laid_shale_api_ErrNumber), ("shale/api.ErrGeometry", laid_shale_api_ErrGeometry), ("shale/api.ErrFull", laid_shale_api_ErrFull), ("shale/api.ErrSize", laid_shale_api_ErrSize)], narrowed := true }
def BufferOwnUptoSaid : Prop := bufferOwnUptoRow.holds Tryd.pinned (OpenSpec.upto bufferOwnSpec)

/-- 'shalelaw19.BufferPlays', WHERE WHAT IT READS IS OF BULK AT MOST 1048576: true; the input reads as it did. -/
def bufferPlaysUptoRow : OpenClaim := { program := "ytompcfingkoldaadoor", sum := "e69e792bb52c0beaa67e72d997cb9eedb8ce387a6f0d09b84286dd1002386e55", func := "shale/shalelaw19.BufferPlays", spec := "bufferPlays", unfollowed := true, recurses := true, named := ["shale/api.ErrGeometry", "shale/api.ErrFull", "shale/api.ErrNumber", "shale/api.ErrSize", "shale/api.ErrField", "shale/api.ErrZero", "shale/api.ErrLong", "shale/api.ErrCode", "shale/api.ErrMany", "shale/api.ErrRecord", "shale/api.ErrDead", "shale/api.ErrOrder", "shale/api.ErrFailed", "shale/api.ErrBad", "shale/api.ErrPage", "shale/api.ErrGone", "shale/api.ErrReadOnly", "shale/api.ErrStep", "shale/api.ErrMount"], apart := false, laid := [("shale/api.ErrField", laid_shale_api_ErrField), ("shale/api.ErrNumber", laid_shale_api_ErrNumber), ("shale/api.ErrZero", laid_shale_api_ErrZero), ("shale/api.ErrLong", laid_shale_api_ErrLong), ("shale/api.ErrCode", laid_shale_api_ErrCode), ("shale/api.ErrMany", laid_shale_api_ErrMany), ("shale/api.ErrRecord", laid_shale_api_ErrRecord), ("shale/api.ErrGeometry", laid_shale_api_ErrGeometry), ("shale/api.ErrDead", laid_shale_api_ErrDead), ("shale/api.ErrOrder", laid_shale_api_ErrOrder), ("shale/api.ErrFailed", laid_shale_api_ErrFailed), ("shale/api.ErrBad", laid_shale_api_ErrBad), ("shale/api.ErrPage", laid_shale_api_ErrPage), ("shale/api.ErrFull", laid_shale_api_ErrFull), ("shale/api.ErrGone", laid_shale_api_ErrGone), ("shale/api.ErrSize", laid_shale_api_ErrSize), ("shale/api.ErrReadOnly", laid_shale_api_ErrReadOnly), ("shale/api.ErrStep", laid_shale_api_ErrStep), ("shale/api.ErrMount", laid_shale_api_ErrMount)], narrowed := true }
def BufferPlaysUptoSaid : Prop := bufferPlaysUptoRow.holds Tryd.pinned (OpenSpec.upto bufferPlaysSpec)

/-- 'shalelaw26.ModelPlays', WHERE WHAT IT READS IS OF BULK AT MOST 1048576: true; the input reads as it did. -/
def modelPlaysUptoRow : OpenClaim := { program := "ytompcfingkoldaadoor", sum := "e69e792bb52c0beaa67e72d997cb9eedb8ce387a6f0d09b84286dd1002386e55", func := "shale/shalelaw26.ModelPlays", spec := "modelPlays", unfollowed := true, recurses := true, named := ["shale/api.ErrGeometry", "shale/api.ErrNumber", "shale/api.ErrSize"], apart := false, laid := [("shale/api.ErrNumber", laid_shale_api_ErrNumber), ("shale/api.ErrGeometry", laid_shale_api_ErrGeometry), ("shale/api.ErrSize", laid_shale_api_ErrSize)], narrowed := true }
def ModelPlaysUptoSaid : Prop := modelPlaysUptoRow.holds Tryd.pinned (OpenSpec.upto modelPlaysSpec)

/-- 'shalelaw26.ModelForgets', WHERE WHAT IT READS IS OF BULK AT MOST 1048576: true; the input reads as it did. -/
def modelForgetsUptoRow : OpenClaim := { program := "ytompcfingkoldaadoor", sum := "e69e792bb52c0beaa67e72d997cb9eedb8ce387a6f0d09b84286dd1002386e55", func := "shale/shalelaw26.ModelForgets", spec := "modelForgets", unfollowed := true, recurses := true, named := ["shale/api.ErrGeometry", "shale/api.ErrNumber", "shale/api.ErrSize"], apart := false, laid := [("shale/api.ErrNumber", laid_shale_api_ErrNumber), ("shale/api.ErrGeometry", laid_shale_api_ErrGeometry), ("shale/api.ErrSize", laid_shale_api_ErrSize)], narrowed := true }
def ModelForgetsUptoSaid : Prop := modelForgetsUptoRow.holds Tryd.pinned (OpenSpec.upto modelForgetsSpec)

end Rows
end Go.Proofs.YtompcfingkoldaaDoor
