/- The walk of the statement WholeCodes, text 34. Conditions: each theorem tells its own. -/
import Derived.Test.YtcgjepodnfjggaaGreatDoorWWholeCodesE
import Derived.KernelRfl
set_option linter.all false
section
namespace Go.Proofs.YtcgjepodnfjggaaGreatDoor
open Go Go.a6 Go.In
set_option maxRecDepth 1000000
noncomputable def abc:cL (ai×Mem)→Bool
 |some [x]=>ai.eqv (.b true) x.1
 |_=>false
theorem auC:abc (Go.In.Fi PU 200 (Fn.func 4) [] ⟨0,.leaf⟩)=true:=by kernel_rfl
end Go.Proofs.YtcgjepodnfjggaaGreatDoor
end
