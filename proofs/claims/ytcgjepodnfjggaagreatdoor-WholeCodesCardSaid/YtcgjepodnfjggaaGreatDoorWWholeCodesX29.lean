/- The walk of the statement WholeCodes, text 37. Conditions: each theorem tells its own. -/
import Derived.Test.YtcgjepodnfjggaaGreatDoorRows
import Derived.LaidByTextLater
import Derived.SevenTiedAt
set_option linter.all false
section
namespace Go.Proofs.YtcgjepodnfjggaaGreatDoor
open Go
set_option maxRecDepth 100000
theorem alk:Tryz.pinned.checked.prog.mainIs=some (true,("a7666e118bac60dd77a550108e16b30e301eb2aa61b7ec9264cb4f2cae0d0fdf" :String).toList):=by kernel_rfl
end Go.Proofs.YtcgjepodnfjggaaGreatDoor
end
