/-
  NARROWER THAN 'FOR EVERY INPUT', by the rows' own cells (each row's printed sentence says how): ModelPlays: laid · ModelForgets: laid.
  DERIVED. THE GIVEN ROWS OF THIS SEAT. 2 by the template 'for every input the law returns true; each argument reads behind the call as it read before'; 0 by the template 'total and deterministic' (their statements: YtaamaifnmppbgaaDoorTotals.lean).
  GIVEN WITH THE SEED: the statements are not yours to turn. If you find one false, say at which input.
  Laid BY PROGRAM, IN A SANDBOX (cutbox-rows.mjs): the forced cells as the released guide's own fill.sh prints them over the translation c2efa53acb419f2b… (all of the seat's roots in one cut). By AI agents, Wed Nov 11 2026. No macro, syntax, notation, axiom, sorry.
-/
import Derived.Test.YtaamaifnmppbgaaDoorChecked
import GoSem.Claim
import GoSem.ClaimJoined
import GoSem.ClaimMapViews
import Derived.JoinedTies
import Derived.KernelRfl
namespace Go.Proofs.YtaamaifnmppbgaaDoor
/- THE CELL 'sum', in the pinned program and in every row, IS THE sha256 OF THE DUMP (.gsa) THAT YtaamaifnmppbgaaDoorProg.lean LOADS. Nothing in Lean hashes anything: it is a label: what it is worth is what the hold of that sum in a sandbox is worth. -/
noncomputable def Tryd.pinned : Pinned := { name := "ytaamaifnmppbgaadoor", sum := "c2efa53acb419f2bf6f16af73beea4ccfdf1f58634a37916e3d5d4e1c86c6dba", checked := Tryd.checked }
namespace Rows
def none {H : Type} : Left H := { results := [], args := [] }

/- WHAT THE LISTED PACKAGE-LEVEL VARIABLES READ AS WHEN THE CALL BEGINS. Each datum BY PROGRAM (the guide's laid-datum.mjs) off the statement by which the dump's own 'gosem.cut.vars' lays the variable. In a bare row this is a premise. The card (YtaamaifnmppbgaaDoorCards.lean) ties it to the program's text. -/
def laid_shale_api_ErrNumber {H : Type} : DataW H := .iface "*errors.errorString" (.ptr (.agg [.lit (.string [110, 111, 32, 115, 117, 99, 104, 32, 110, 117, 109, 98, 101, 114])]))
def laid_shale_api_ErrGeometry {H : Type} : DataW H := .iface "*errors.errorString" (.ptr (.agg [.lit (.string [110, 111, 32, 115, 117, 99, 104, 32, 99, 104, 105, 112])]))
def laid_shale_api_ErrSize {H : Type} : DataW H := .iface "*errors.errorString" (.ptr (.agg [.lit (.string [110, 111, 32, 115, 101, 99, 116, 111, 114, 39, 115, 32, 115, 105, 122, 101])]))

/-- 'shalelaw26.ModelPlays': WHATEVER THE INPUT: true; the input reads as it did. -/
def modelPlaysSpec : ChangeSpec := { name := "modelPlays", fn := fun _ => fun
  | [d1, d2, d3, d4, d5, d6] => { results := [.lit (.bool true)], args := [d1, d2, d3, d4, d5, d6] }
  | _ => none }
def modelPlaysRow : OpenClaim := { program := "ytaamaifnmppbgaadoor", sum := "c2efa53acb419f2bf6f16af73beea4ccfdf1f58634a37916e3d5d4e1c86c6dba", func := "shale/shalelaw26.ModelPlays", spec := "modelPlays", unfollowed := true, recurses := true, named := ["shale/api.ErrGeometry", "shale/api.ErrNumber", "shale/api.ErrSize"], apart := false, laid := [("shale/api.ErrNumber", laid_shale_api_ErrNumber), ("shale/api.ErrGeometry", laid_shale_api_ErrGeometry), ("shale/api.ErrSize", laid_shale_api_ErrSize)] }
def ModelPlaysSaid : Prop := modelPlaysRow.holds Tryd.pinned (OpenSpec.ofChange modelPlaysSpec)

/-- ITS FALSE NEIGHBOUR: 'it returns false'. Refute it at one input. -/
def modelPlaysWrong : ChangeSpec := { name := "modelPlays", fn := fun _ => fun
  | [d1, d2, d3, d4, d5, d6] => { results := [.lit (.bool false)], args := [d1, d2, d3, d4, d5, d6] }
  | _ => none }
def ModelPlaysWrongFalsely : Prop := modelPlaysRow.holds Tryd.pinned (OpenSpec.ofChange modelPlaysWrong)

/-- 'shalelaw26.ModelForgets': WHATEVER THE INPUT: true; the input reads as it did. -/
def modelForgetsSpec : ChangeSpec := { name := "modelForgets", fn := fun _ => fun
  | [d1, d2] => { results := [.lit (.bool true)], args := [d1, d2] }
  | _ => none }
def modelForgetsRow : OpenClaim := { program := "ytaamaifnmppbgaadoor", sum := "c2efa53acb419f2bf6f16af73beea4ccfdf1f58634a37916e3d5d4e1c86c6dba", func := "shale/shalelaw26.ModelForgets", spec := "modelForgets", unfollowed := true, recurses := true, named := ["shale/api.ErrGeometry", "shale/api.ErrNumber", "shale/api.ErrSize"], apart := false, laid := [("shale/api.ErrNumber", laid_shale_api_ErrNumber), ("shale/api.ErrGeometry", laid_shale_api_ErrGeometry), ("shale/api.ErrSize", laid_shale_api_ErrSize)] }
def ModelForgetsSaid : Prop := modelForgetsRow.holds Tryd.pinned (OpenSpec.ofChange modelForgetsSpec)

/-- ITS FALSE NEIGHBOUR: 'it returns false'. Refute it at one input. -/
def modelForgetsWrong : ChangeSpec := { name := "modelForgets", fn := fun _ => fun
  | [d1, d2] => { results := [.lit (.bool false)], args := [d1, d2] }
  | _ => none }
def ModelForgetsWrongFalsely : Prop := modelForgetsRow.holds Tryd.pinned (OpenSpec.ofChange modelForgetsWrong)

/- THE SECOND FORM. 'bulk': how many values and letters a reading holds, each counted each time it is reached (what is shared counts as often as it is met; a slice's spare places count too). A statement '..UptoSaid' is the law's where the arguments, and the package variables that the reading takes, are together of bulk at most 1048576: NARROWER than '..Said'. Prove '..Said' where nothing that the law and all that it calls make is longer than what came in: it says more and counts as full. Else prove '..UptoSaid'. A law counts once. -/
mutual
def uptoBulk {H : Type} : DataW H → Nat
  | .lit (.string bytes) => bytes.length + 1
  | .lit _ => 1
  | .nil => 1
  | .ptr d => uptoBulk d + 1
  | .slice elems spare => uptoBulkAll elems + uptoBulkAll spare + 1
  | .agg parts => uptoBulkAll parts + 1
  | .iface _ d => uptoBulk d + 1
  | .map entries => uptoBulkEntries entries + 1
  | .held _ => 1
def uptoBulkAll {H : Type} : List (DataW H) → Nat
  | [] => 0
  | d :: r => uptoBulk d + uptoBulkAll r
def uptoBulkEntries {H : Type} : List (Lit × DataW H) → Nat
  | [] => 0
  | x :: r => uptoBulkEntry x + uptoBulkEntries r
def uptoBulkEntry {H : Type} : Lit × DataW H → Nat
  | (.string bytes, d) => bytes.length + uptoBulk d + 1
  | (_, d) => uptoBulk d + 1
 end
def uptoSmall : (H : Type) → List (DataW H) → Bool := fun _ ds => decide (uptoBulkAll ds ≤ 1048576)
def OpenSpec.upto (s : _root_.Go.ChangeSpec) : _root_.Go.OpenSpec := { _root_.Go.OpenSpec.ofChange s with cond := some uptoSmall }

/-- 'shalelaw26.ModelPlays', WHERE WHAT IT READS IS OF BULK AT MOST 1048576: true; the input reads as it did. -/
def modelPlaysUptoRow : OpenClaim := { program := "ytaamaifnmppbgaadoor", sum := "c2efa53acb419f2bf6f16af73beea4ccfdf1f58634a37916e3d5d4e1c86c6dba", func := "shale/shalelaw26.ModelPlays", spec := "modelPlays", unfollowed := true, recurses := true, named := ["shale/api.ErrGeometry", "shale/api.ErrNumber", "shale/api.ErrSize"], apart := false, laid := [("shale/api.ErrNumber", laid_shale_api_ErrNumber), ("shale/api.ErrGeometry", laid_shale_api_ErrGeometry), ("shale/api.ErrSize", laid_shale_api_ErrSize)], narrowed := true }
def ModelPlaysUptoSaid : Prop := modelPlaysUptoRow.holds Tryd.pinned (OpenSpec.upto modelPlaysSpec)

/-- 'shalelaw26.ModelForgets', WHERE WHAT IT READS IS OF BULK AT MOST 1048576: true; the input reads as it did. -/
def modelForgetsUptoRow : OpenClaim := { program := "ytaamaifnmppbgaadoor", sum := "c2efa53acb419f2bf6f16af73beea4ccfdf1f58634a37916e3d5d4e1c86c6dba", func := "shale/shalelaw26.ModelForgets", spec := "modelForgets", unfollowed := true, recurses := true, named := ["shale/api.ErrGeometry", "shale/api.ErrNumber", "shale/api.ErrSize"], apart := false, laid := [("shale/api.ErrNumber", laid_shale_api_ErrNumber), ("shale/api.ErrGeometry", laid_shale_api_ErrGeometry), ("shale/api.ErrSize", laid_shale_api_ErrSize)], narrowed := true }
def ModelForgetsUptoSaid : Prop := modelForgetsUptoRow.holds Tryd.pinned (OpenSpec.upto modelForgetsSpec)

end Rows
end Go.Proofs.YtaamaifnmppbgaaDoor
