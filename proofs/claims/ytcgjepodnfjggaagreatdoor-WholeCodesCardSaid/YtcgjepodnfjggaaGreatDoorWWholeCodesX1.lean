/- The walk of the statement WholeCodes, text 9. Conditions: each theorem tells its own. -/
import Derived.Test.YtcgjepodnfjggaaGreatDoorWWholeCodesE
set_option linter.all false
section
namespace Go.Proofs.YtcgjepodnfjggaaGreatDoor
open Go Go.a6 Go.In
set_option maxRecDepth 100000
theorem aqS:h2 cU 0 ((Tryz.prog.funcs.toList.drop 0).take 20)=true:=by kernel_rfl
theorem ai7:h2 cU 20 ((Tryz.prog.funcs.toList.drop 20).take 20)=true:=by kernel_rfl
theorem anr:h2 cU 40 ((Tryz.prog.funcs.toList.drop 40).take 20)=true:=by kernel_rfl
theorem auY:h2 cU 60 ((Tryz.prog.funcs.toList.drop 60).take 20)=true:=by kernel_rfl
theorem alj:h2 cU 80 ((Tryz.prog.funcs.toList.drop 80).take 20)=true:=by kernel_rfl
theorem arx:h2 cU 100 ((Tryz.prog.funcs.toList.drop 100).take 20)=true:=by kernel_rfl
theorem ao2:h2 cU 120 ((Tryz.prog.funcs.toList.drop 120).take 20)=true:=by kernel_rfl
end Go.Proofs.YtcgjepodnfjggaaGreatDoor
end
