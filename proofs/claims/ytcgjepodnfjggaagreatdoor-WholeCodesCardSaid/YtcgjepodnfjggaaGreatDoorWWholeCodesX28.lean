/- The walk of the statement WholeCodes, text 36. Conditions: each theorem tells its own. -/
import Derived.Test.YtcgjepodnfjggaaGreatDoorRows
import Derived.LaidByTextLater
import Derived.SevenTiedAt
set_option linter.all false
section
namespace Go.Proofs.YtcgjepodnfjggaaGreatDoor
open Go
set_option maxRecDepth 100000
theorem auX:Rows.wholeCodesRow.wfByText (OpenSpec.ofChange Rows.wholeCodesSpec)=true:=by kernel_rfl
end Go.Proofs.YtcgjepodnfjggaaGreatDoor
end
