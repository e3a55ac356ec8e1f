/- The walk of the statement WholeCodes, text 40. Conditions: each theorem tells its own. -/
import Derived.Test.YtcgjepodnfjggaaGreatDoorWWholeCodesX0
set_option linter.all false
section
namespace Go.Proofs.YtcgjepodnfjggaaGreatDoor
open Go
set_option maxRecDepth 100000
theorem auo(os:Os)(tape:Tape):(DataW.laidRun Tryz.prog (varsWorld Tryz.prog 400 (varsId Tryz.prog) os tape).memory 8 (zr.map (·.1))).map (·.1)=some zr:=by kernel_rfl
end Go.Proofs.YtcgjepodnfjggaaGreatDoor
end
