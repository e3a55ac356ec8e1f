/- The walk of the statement WholeCodes, text 11. Conditions: each theorem tells its own. -/
import Derived.Test.YtcgjepodnfjggaaGreatDoorWWholeCodesE
set_option linter.all false
section
namespace Go.Proofs.YtcgjepodnfjggaaGreatDoor
open Go Go.a6 Go.In
set_option maxRecDepth 100000
theorem ahO:h2 cU 280 ((Tryz.prog.funcs.toList.drop 280).take 20)=true:=by kernel_rfl
theorem aiM:h2 cU 300 ((Tryz.prog.funcs.toList.drop 300).take 20)=true:=by kernel_rfl
theorem asa:h2 cU 320 ((Tryz.prog.funcs.toList.drop 320).take 20)=true:=by kernel_rfl
theorem atI:h2 cU 340 ((Tryz.prog.funcs.toList.drop 340).take 20)=true:=by kernel_rfl
theorem aqJ:h2 cU 360 ((Tryz.prog.funcs.toList.drop 360).take 20)=true:=by kernel_rfl
theorem atX:h2 cU 380 ((Tryz.prog.funcs.toList.drop 380).take 20)=true:=by kernel_rfl
theorem afy:h2 cU 400 ((Tryz.prog.funcs.toList.drop 400).take 20)=true:=by kernel_rfl
end Go.Proofs.YtcgjepodnfjggaaGreatDoor
end
