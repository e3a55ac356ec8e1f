/- The walk of the statement WholeCodes, text 42. Conditions: each theorem tells its own. -/
import Derived.Test.YtcgjepodnfjggaaGreatDoorWWholeCodesF
set_option linter.all false
section
namespace Go.Proofs.YtcgjepodnfjggaaGreatDoor
open Go Go.a6 Go.In
set_option maxRecDepth 100000
theorem afN:hv ny 200 157 (AQ 19 1 5 8 408)=true:=by kernel_rfl
end Go.Proofs.YtcgjepodnfjggaaGreatDoor
end
