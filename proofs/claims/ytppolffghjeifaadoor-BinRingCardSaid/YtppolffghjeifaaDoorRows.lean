/-
  NARROWER THAN 'FOR EVERY INPUT', by the rows' own cells (each row's printed sentence says how): BinOf: laid · BinCounts: laid · BinShifts: laid · BinDivides: laid · BinRing: laid · BinOwn: laid · BinSays: laid.
  DERIVED. THE GIVEN ROWS OF THIS SEAT. 7 by the template 'for every input the law returns true; each argument reads behind the call as it read before'; 0 by the template 'total and deterministic' (their statements: YtppolffghjeifaaDoorTotals.lean).
  GIVEN WITH THE SEED: the statements are not yours to turn. If you find one false, say at which input.
  Laid BY PROGRAM, IN A SANDBOX (cutbox-rows.mjs): the forced cells as the released guide's own fill.sh prints them over the translation 633c665553f1b955… (all of the seat's roots in one cut). By AI agents, Wed Nov 11 2026. No macro, syntax, notation, axiom, sorry.
-/
import Derived.Test.YtppolffghjeifaaDoorChecked
import GoSem.Claim
import GoSem.ClaimJoined
import GoSem.ClaimMapViews
import Derived.JoinedTies
import Derived.KernelRfl
namespace Go.Proofs.YtppolffghjeifaaDoor
/- THE CELL 'sum', in the pinned program and in every row, IS THE sha256 OF THE DUMP (.gsa) THAT YtppolffghjeifaaDoorProg.lean LOADS. Nothing in Lean hashes anything: it is a label: what it is worth is what the hold of that sum in a sandbox is worth. -/
noncomputable def Tryd.pinned : Pinned := { name := "ytppolffghjeifaadoor", sum := "633c665553f1b9553d204db4a80ef0085577b8c6b4074b25a04d01e8015e9b7e", checked := Tryd.checked }
namespace Rows
def none {H : Type} : Left H := { results := [], args := [] }

/- WHAT THE LISTED PACKAGE-LEVEL VARIABLES READ AS WHEN THE CALL BEGINS. Each datum BY PROGRAM (the guide's laid-datum.mjs) off the statement by which the dump's own 'gosem.cut.vars' lays the variable. In a bare row this is a premise. The card (YtppolffghjeifaaDoorCards.lean) ties it to the program's text. -/
def laid_shale_api_ErrNumber {H : Type} : DataW H := .iface "*errors.errorString" (.ptr (.agg [.lit (.string [110, 111, 32, 115, 117, 99, 104, 32, 110, 117, 109, 98, 101, 114])]))
def laid_shale_api_ErrLong {H : Type} : DataW H := .iface "*errors.errorString" (.ptr (.agg [.lit (.string [116, 111, 111, 32, 108, 111, 110, 103])]))
def laid_shale_api_ErrZero {H : Type} : DataW H := .iface "*errors.errorString" (.ptr (.agg [.lit (.string [122, 101, 114, 111, 32, 104, 97, 115, 32, 110, 111, 110, 101])]))

/-- 'shalelaw3.BinOf': WHATEVER THE INPUT: true; the input reads as it did. -/
def binOfSpec : ChangeSpec := { name := "binOf", fn := fun _ => fun
  | [d] => { results := [.lit (.bool true)], args := [d] }
  | _ => none }
def binOfRow : OpenClaim := { program := "ytppolffghjeifaadoor", sum := "633c665553f1b9553d204db4a80ef0085577b8c6b4074b25a04d01e8015e9b7e", func := "shale/shalelaw3.BinOf", spec := "binOf", unfollowed := true, recurses := true, named := ["shale/api.ErrNumber", "shale/api.ErrLong"], apart := false, laid := [("shale/api.ErrNumber", laid_shale_api_ErrNumber), ("shale/api.ErrLong", laid_shale_api_ErrLong)] }
def BinOfSaid : Prop := binOfRow.holds Tryd.pinned (OpenSpec.ofChange binOfSpec)

/-- ITS FALSE NEIGHBOUR: 'it returns false'. Refute it at one input. -/
def binOfWrong : ChangeSpec := { name := "binOf", fn := fun _ => fun
  | [d] => { results := [.lit (.bool false)], args := [d] }
  | _ => none }
def BinOfWrongFalsely : Prop := binOfRow.holds Tryd.pinned (OpenSpec.ofChange binOfWrong)

/-- 'shalelaw3.BinCounts': WHATEVER THE INPUT: true; the input reads as it did. -/
def binCountsSpec : ChangeSpec := { name := "binCounts", fn := fun _ => fun
  | [d] => { results := [.lit (.bool true)], args := [d] }
  | _ => none }
def binCountsRow : OpenClaim := { program := "ytppolffghjeifaadoor", sum := "633c665553f1b9553d204db4a80ef0085577b8c6b4074b25a04d01e8015e9b7e", func := "shale/shalelaw3.BinCounts", spec := "binCounts", unfollowed := true, recurses := true, named := ["shale/api.ErrNumber", "shale/api.ErrLong"], apart := false, laid := [("shale/api.ErrNumber", laid_shale_api_ErrNumber), ("shale/api.ErrLong", laid_shale_api_ErrLong)] }
def BinCountsSaid : Prop := binCountsRow.holds Tryd.pinned (OpenSpec.ofChange binCountsSpec)

/-- ITS FALSE NEIGHBOUR: 'it returns false'. Refute it at one input. -/
def binCountsWrong : ChangeSpec := { name := "binCounts", fn := fun _ => fun
  | [d] => { results := [.lit (.bool false)], args := [d] }
  | _ => none }
def BinCountsWrongFalsely : Prop := binCountsRow.holds Tryd.pinned (OpenSpec.ofChange binCountsWrong)

/-- 'shalelaw3.BinShifts': WHATEVER THE INPUT: true; the input reads as it did. -/
def binShiftsSpec : ChangeSpec := { name := "binShifts", fn := fun _ => fun
  | [d1, d2] => { results := [.lit (.bool true)], args := [d1, d2] }
  | _ => none }
def binShiftsRow : OpenClaim := { program := "ytppolffghjeifaadoor", sum := "633c665553f1b9553d204db4a80ef0085577b8c6b4074b25a04d01e8015e9b7e", func := "shale/shalelaw3.BinShifts", spec := "binShifts", unfollowed := true, recurses := true, named := ["shale/api.ErrNumber", "shale/api.ErrLong"], apart := false, laid := [("shale/api.ErrNumber", laid_shale_api_ErrNumber), ("shale/api.ErrLong", laid_shale_api_ErrLong)] }
def BinShiftsSaid : Prop := binShiftsRow.holds Tryd.pinned (OpenSpec.ofChange binShiftsSpec)

/-- ITS FALSE NEIGHBOUR: 'it returns false'. Refute it at one input. -/
def binShiftsWrong : ChangeSpec := { name := "binShifts", fn := fun _ => fun
  | [d1, d2] => { results := [.lit (.bool false)], args := [d1, d2] }
  | _ => none }
def BinShiftsWrongFalsely : Prop := binShiftsRow.holds Tryd.pinned (OpenSpec.ofChange binShiftsWrong)

/-- 'shalelaw3.BinDivides': WHATEVER THE INPUT: true; the input reads as it did. -/
def binDividesSpec : ChangeSpec := { name := "binDivides", fn := fun _ => fun
  | [d1, d2, d3] => { results := [.lit (.bool true)], args := [d1, d2, d3] }
  | _ => none }
def binDividesRow : OpenClaim := { program := "ytppolffghjeifaadoor", sum := "633c665553f1b9553d204db4a80ef0085577b8c6b4074b25a04d01e8015e9b7e", func := "shale/shalelaw3.BinDivides", spec := "binDivides", unfollowed := true, recurses := true, named := ["shale/api.ErrNumber", "shale/api.ErrLong", "shale/api.ErrZero"], apart := false, laid := [("shale/api.ErrNumber", laid_shale_api_ErrNumber), ("shale/api.ErrZero", laid_shale_api_ErrZero), ("shale/api.ErrLong", laid_shale_api_ErrLong)] }
def BinDividesSaid : Prop := binDividesRow.holds Tryd.pinned (OpenSpec.ofChange binDividesSpec)

/-- ITS FALSE NEIGHBOUR: 'it returns false'. Refute it at one input. -/
def binDividesWrong : ChangeSpec := { name := "binDivides", fn := fun _ => fun
  | [d1, d2, d3] => { results := [.lit (.bool false)], args := [d1, d2, d3] }
  | _ => none }
def BinDividesWrongFalsely : Prop := binDividesRow.holds Tryd.pinned (OpenSpec.ofChange binDividesWrong)

/-- 'shalelaw3.BinRing': WHATEVER THE INPUT: true; the input reads as it did. -/
def binRingSpec : ChangeSpec := { name := "binRing", fn := fun _ => fun
  | [d1, d2, d3] => { results := [.lit (.bool true)], args := [d1, d2, d3] }
  | _ => none }
def binRingRow : OpenClaim := { program := "ytppolffghjeifaadoor", sum := "633c665553f1b9553d204db4a80ef0085577b8c6b4074b25a04d01e8015e9b7e", func := "shale/shalelaw3.BinRing", spec := "binRing", unfollowed := true, recurses := true, named := ["shale/api.ErrZero", "shale/api.ErrNumber", "shale/api.ErrLong"], apart := false, laid := [("shale/api.ErrNumber", laid_shale_api_ErrNumber), ("shale/api.ErrZero", laid_shale_api_ErrZero), ("shale/api.ErrLong", laid_shale_api_ErrLong)] }
def BinRingSaid : Prop := binRingRow.holds Tryd.pinned (OpenSpec.ofChange binRingSpec)

/-- ITS FALSE NEIGHBOUR: 'it returns false'. Refute it at one input. -/
def binRingWrong : ChangeSpec := { name := "binRing", fn := fun _ => fun
  | [d1, d2, d3] => { results := [.lit (.bool false)], args := [d1, d2, d3] }
  | _ => none }
def BinRingWrongFalsely : Prop := binRingRow.holds Tryd.pinned (OpenSpec.ofChange binRingWrong)

/-- 'shalelaw3.BinOwn': WHATEVER THE INPUT: true; the input reads as it did. -/
def binOwnSpec : ChangeSpec := { name := "binOwn", fn := fun _ => fun
  | [d1, d2] => { results := [.lit (.bool true)], args := [d1, d2] }
  | _ => none }
def binOwnRow : OpenClaim := { program := "ytppolffghjeifaadoor", sum := "633c665553f1b9553d204db4a80ef0085577b8c6b4074b25a04d01e8015e9b7e", func := "shale/shalelaw3.BinOwn", spec := "binOwn", unfollowed := true, recurses := true, named := ["shale/api.ErrZero", "shale/api.ErrNumber", "shale/api.ErrLong"], apart := false, laid := [("shale/api.ErrNumber", laid_shale_api_ErrNumber), ("shale/api.ErrZero", laid_shale_api_ErrZero), ("shale/api.ErrLong", laid_shale_api_ErrLong)] }
def BinOwnSaid : Prop := binOwnRow.holds Tryd.pinned (OpenSpec.ofChange binOwnSpec)

/-- ITS FALSE NEIGHBOUR: 'it returns false'. Refute it at one input. -/
def binOwnWrong : ChangeSpec := { name := "binOwn", fn := fun _ => fun
  | [d1, d2] => { results := [.lit (.bool false)], args := [d1, d2] }
  | _ => none }
def BinOwnWrongFalsely : Prop := binOwnRow.holds Tryd.pinned (OpenSpec.ofChange binOwnWrong)

/-- 'shalelaw3.BinSays': WHATEVER THE INPUT: true; the input reads as it did. -/
def binSaysSpec : ChangeSpec := { name := "binSays", fn := fun _ => fun
  | [d1, d2, d3, d4] => { results := [.lit (.bool true)], args := [d1, d2, d3, d4] }
  | _ => none }
def binSaysRow : OpenClaim := { program := "ytppolffghjeifaadoor", sum := "633c665553f1b9553d204db4a80ef0085577b8c6b4074b25a04d01e8015e9b7e", func := "shale/shalelaw3.BinSays", spec := "binSays", unfollowed := true, recurses := true, named := ["shale/api.ErrZero", "shale/api.ErrLong", "shale/api.ErrNumber"], apart := false, laid := [("shale/api.ErrNumber", laid_shale_api_ErrNumber), ("shale/api.ErrZero", laid_shale_api_ErrZero), ("shale/api.ErrLong", laid_shale_api_ErrLong)] }
def BinSaysSaid : Prop := binSaysRow.holds Tryd.pinned (OpenSpec.ofChange binSaysSpec)

/-- ITS FALSE NEIGHBOUR: 'it returns false'. Refute it at one input. -/
def binSaysWrong : ChangeSpec := { name := "binSays", fn := fun _ => fun
  | [d1, d2, d3, d4] => { results := [.lit (.bool false)], args := [d1, d2, d3, d4] }
  | _ => none }
def BinSaysWrongFalsely : Prop := binSaysRow.holds Tryd.pinned (OpenSpec.ofChange binSaysWrong)

/- THE SECOND FORM. 'bulk': how many values and letters a reading holds, each counted each time it is reached (what is shared counts as often as it is met; a slice's spare places count too). A statement '..UptoSaid' is the law's where the arguments, and the package variables that the reading takes, are together of bulk at most 1048576: NARROWER than '..Said'. Prove '..Said' where nothing that the law and all that it calls make is longer than what came in: it says more and counts as full. Else prove '..UptoSaid'. A law counts once. -/
mutual
def uptoBulk {H : Type} : DataW H → Nat
  | .lit (.string bytes) => bytes.length + 1
  | .lit _ => 1
  | .nil => 1
  | .ptr d => uptoBulk d + 1
  | .slice elems spare => uptoBulkAll elems + uptoBulkAll spare + 1
  | .agg parts => uptoBulkAll parts + 1
  | .iface _ d => uptoBulk d + 1
  | .map entries => uptoBulkEntries entries + 1
  | .held _ => 1
def uptoBulkAll {H : Type} : List (DataW H) → Nat
  | [] => 0
  | d :: r => uptoBulk d + uptoBulkAll r
def uptoBulkEntries {H : Type} : List (Lit × DataW H) → Nat
  | [] => 0
  | x :: r => uptoBulkEntry x + uptoBulkEntries r
def uptoBulkEntry {H : Type} : Lit × DataW H → Nat
  | (.string bytes, d) => bytes.length + uptoBulk d + 1
  | (_, d) => uptoBulk d + 1
 end
def uptoSmall : (H : Type) → List (DataW H) → Bool := fun _ ds => decide (uptoBulkAll ds ≤ 1048576)
def OpenSpec.upto (s : _root_.Go.ChangeSpec) : _root_.Go.OpenSpec := { _root_.Go.OpenSpec.ofChange s with cond := some uptoSmall }

/-- 'shalelaw3.BinOf', WHERE WHAT IT READS IS OF BULK AT MOST 1048576: true; the input reads as it did. -/
def binOfUptoRow : OpenClaim := { program := "ytppolffghjeifaadoor", sum := "633c665553f1b9553d204db4a80ef0085577b8c6b4074b25a04d01e8015e9b7e", func := "shale/shalelaw3.BinOf", spec := "binOf", unfollowed := true, recurses := true, named := ["shale/api.ErrNumber", "shale/api.ErrLong"], apart := false, laid := [("shale/api.ErrNumber", laid_shale_api_ErrNumber), ("shale/api.ErrLong", laid_shale_api_ErrLong)], narrowed := true }
def BinOfUptoSaid : Prop := binOfUptoRow.holds Tryd.pinned (OpenSpec.upto binOfSpec)

/-- 'shalelaw3.BinCounts', WHERE WHAT IT READS IS OF BULK AT MOST 1048576: true; the input reads as it did. -/
def binCountsUptoRow : OpenClaim := { program := "ytppolffghjeifaadoor", sum := "633c665553f1b9553d204db4a80ef0085577b8c6b4074b25a04d01e8015e9b7e", func := "shale/shalelaw3.BinCounts", spec := "binCounts", unfollowed := true, recurses := true, named := ["shale/api.ErrNumber", "shale/api.ErrLong"], apart := false, laid := [("shale/api.ErrNumber", laid_shale_api_ErrNumber), ("shale/api.ErrLong", laid_shale_api_ErrLong)], narrowed := true }
def BinCountsUptoSaid : Prop := binCountsUptoRow.holds Tryd.pinned (OpenSpec.upto binCountsSpec)

/-- 'shalelaw3.BinShifts', WHERE WHAT IT READS IS OF BULK AT MOST 1048576: true; the input reads as it did. -/
def binShiftsUptoRow : OpenClaim := { program := "ytppolffghjeifaadoor", sum := "633c665553f1b9553d204db4a80ef0085577b8c6b4074b25a04d01e8015e9b7e", func := "shale/shalelaw3.BinShifts", spec := "binShifts", unfollowed := true, recurses := true, named := ["shale/api.ErrNumber", "shale/api.ErrLong"], apart := false, laid := [("shale/api.ErrNumber", laid_shale_api_ErrNumber), ("shale/api.ErrLong", laid_shale_api_ErrLong)], narrowed := true }
def BinShiftsUptoSaid : Prop := binShiftsUptoRow.holds Tryd.pinned (OpenSpec.upto binShiftsSpec)

/-- 'shalelaw3.BinDivides', WHERE WHAT IT READS IS OF BULK AT MOST 1048576: true; the input reads as it did. -/
def binDividesUptoRow : OpenClaim := { program := "ytppolffghjeifaadoor", sum := "633c665553f1b9553d204db4a80ef0085577b8c6b4074b25a04d01e8015e9b7e", func := "shale/shalelaw3.BinDivides", spec := "binDivides", unfollowed := true, recurses := true, named := ["shale/api.ErrNumber", "shale/api.ErrLong", "shale/api.ErrZero"], apart := false, laid := [("shale/api.ErrNumber", laid_shale_api_ErrNumber), ("shale/api.ErrZero", laid_shale_api_ErrZero), ("shale/api.ErrLong", laid_shale_api_ErrLong)], narrowed := true }
def BinDividesUptoSaid : Prop := binDividesUptoRow.holds Tryd.pinned (OpenSpec.upto binDividesSpec)

/-- 'shalelaw3.BinRing', WHERE WHAT IT READS IS OF BULK AT MOST 1048576: true; the input reads as it did. -/
def binRingUptoRow : OpenClaim := { program := "ytppolffghjeifaadoor", sum := "633c665553f1b9553d204db4a80ef0085577b8c6b4074b25a04d01e8015e9b7e", func := "shale/shalelaw3.BinRing", spec := "binRing", unfollowed := true, recurses := true, named := ["shale/api.ErrZero", "shale/api.ErrNumber", "shale/api.ErrLong"], apart := false, laid := [("shale/api.ErrNumber", laid_shale_api_ErrNumber), ("shale/api.ErrZero", laid_shale_api_ErrZero), ("shale/api.ErrLong", laid_shale_api_ErrLong)], narrowed := true }
def BinRingUptoSaid : Prop := binRingUptoRow.holds Tryd.pinned (OpenSpec.upto binRingSpec)

/-- 'shalelaw3.BinOwn', WHERE WHAT IT READS IS OF BULK AT MOST 1048576: true; the input reads as it did. -/
def binOwnUptoRow : OpenClaim := { program := "ytppolffghjeifaadoor", sum := "633c665553f1b9553d204db4a80ef0085577b8c6b4074b25a04d01e8015e9b7e", func := "shale/shalelaw3.BinOwn", spec := "binOwn", unfollowed := true, recurses := true, named := ["shale/api.ErrZero", "shale/api.ErrNumber", "shale/api.ErrLong"], apart := false, laid := [("shale/api.ErrNumber", laid_shale_api_ErrNumber), ("shale/api.ErrZero", laid_shale_api_ErrZero), ("shale/api.ErrLong", laid_shale_api_ErrLong)], narrowed := true }
def BinOwnUptoSaid : Prop := binOwnUptoRow.holds Tryd.pinned (OpenSpec.upto binOwnSpec)

/-- 'shalelaw3.BinSays', WHERE WHAT IT READS IS OF BULK AT MOST 1048576: true; the input reads as it did. -/
def binSaysUptoRow : OpenClaim := { program := "ytppolffghjeifaadoor", sum := "633c665553f1b9553d204db4a80ef0085577b8c6b4074b25a04d01e8015e9b7e", func := "shale/shalelaw3.BinSays", spec := "binSays", unfollowed := true, recurses := true, named := ["shale/api.ErrZero", "shale/api.ErrLong", "shale/api.ErrNumber"], apart := false, laid := [("shale/api.ErrNumber", laid_shale_api_ErrNumber), ("shale/api.ErrZero", laid_shale_api_ErrZero), ("shale/api.ErrLong", laid_shale_api_ErrLong)], narrowed := true }
def BinSaysUptoSaid : Prop := binSaysUptoRow.holds Tryd.pinned (OpenSpec.upto binSaysSpec)

end Rows
end Go.Proofs.YtppolffghjeifaaDoor
