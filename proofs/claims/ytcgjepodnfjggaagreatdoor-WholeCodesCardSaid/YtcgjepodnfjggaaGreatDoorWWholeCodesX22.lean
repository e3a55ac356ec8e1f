/- The walk of the statement WholeCodes, text 30. Conditions: each theorem tells its own. -/
import Derived.Test.YtcgjepodnfjggaaGreatDoorWWholeCodesE
import Derived.KernelRfl
set_option linter.all false
section
namespace Go.Proofs.YtcgjepodnfjggaaGreatDoor
open Go Go.a6 Go.In
set_option maxRecDepth 100000
theorem aei:avv.all (hv NA 200 193)=true:=by kernel_rfl
end Go.Proofs.YtcgjepodnfjggaaGreatDoor
end
