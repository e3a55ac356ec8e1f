/- The walk of the statement WholeCodes, text 39. Conditions: each theorem tells its own. -/
import Derived.Test.YtcgjepodnfjggaaGreatDoorWWholeCodesX0
set_option linter.all false
section
namespace Go.Proofs.YtcgjepodnfjggaaGreatDoor
open Go
set_option maxRecDepth 100000
theorem akD(os:Os)(tape:Tape):varsDone Tryz.prog 400 (varsId Tryz.prog) os tape=true:=by kernel_rfl
end Go.Proofs.YtcgjepodnfjggaaGreatDoor
end
