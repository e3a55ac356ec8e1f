/- The walk of the statement WholeCodes, text 45. Conditions: each theorem tells its own. -/
import Derived.Test.YtcgjepodnfjggaaGreatDoorWWholeCodesF
set_option linter.all false
section
namespace Go.Proofs.YtcgjepodnfjggaaGreatDoor
open Go Go.a6 Go.In
set_option maxRecDepth 100000
theorem aeC:hv Gg 200 41 Mh=true:=by kernel_rfl
theorem akQ:hv ny 200 222 CE=true:=by kernel_rfl
theorem aoy:[Bh [10,8,16,9,2,2,0,3,4] 9,Bh [12,6,16,9,1,2,1,2,3] 6,Bh [12,16,96,11,3,2,3,4,5] 16,Bh [9,16,64,10,2,2,0,5,6] 19].all (hv ny 200 18)=true:=by kernel_rfl
end Go.Proofs.YtcgjepodnfjggaaGreatDoor
end
