/- The walk of the statement WholeCodes, text 12. Conditions: each theorem tells its own. -/
import Derived.Test.YtcgjepodnfjggaaGreatDoorWWholeCodesE
set_option linter.all false
section
namespace Go.Proofs.YtcgjepodnfjggaaGreatDoor
open Go Go.a6 Go.In
set_option maxRecDepth 100000
theorem amP:h2 cU 420 ((Tryz.prog.funcs.toList.drop 420).take 20)=true:=by kernel_rfl
theorem adu:h2 cU 440 ((Tryz.prog.funcs.toList.drop 440).take 20)=true:=by kernel_rfl
theorem amq:h2 cU 460 ((Tryz.prog.funcs.toList.drop 460).take 20)=true:=by kernel_rfl
theorem adq:h2 cU 480 ((Tryz.prog.funcs.toList.drop 480).take 20)=true:=by kernel_rfl
theorem aeO:h2 cU 500 ((Tryz.prog.funcs.toList.drop 500).take 20)=true:=by kernel_rfl
theorem ad0:h2 cU 520 ((Tryz.prog.funcs.toList.drop 520).take 20)=true:=by kernel_rfl
theorem ajv:h2 cU 540 ((Tryz.prog.funcs.toList.drop 540).take 20)=true:=by kernel_rfl
end Go.Proofs.YtcgjepodnfjggaaGreatDoor
end
