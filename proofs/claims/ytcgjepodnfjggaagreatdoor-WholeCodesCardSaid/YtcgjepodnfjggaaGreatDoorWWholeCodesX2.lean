/- The walk of the statement WholeCodes, text 10. Conditions: each theorem tells its own. -/
import Derived.Test.YtcgjepodnfjggaaGreatDoorWWholeCodesE
set_option linter.all false
section
namespace Go.Proofs.YtcgjepodnfjggaaGreatDoor
open Go Go.a6 Go.In
set_option maxRecDepth 100000
theorem ae0:h2 cU 140 ((Tryz.prog.funcs.toList.drop 140).take 20)=true:=by kernel_rfl
theorem aiA:h2 cU 160 ((Tryz.prog.funcs.toList.drop 160).take 20)=true:=by kernel_rfl
theorem adY:h2 cU 180 ((Tryz.prog.funcs.toList.drop 180).take 20)=true:=by kernel_rfl
theorem au6:h2 cU 200 ((Tryz.prog.funcs.toList.drop 200).take 20)=true:=by kernel_rfl
theorem anb:h2 cU 220 ((Tryz.prog.funcs.toList.drop 220).take 20)=true:=by kernel_rfl
theorem aoO:h2 cU 240 ((Tryz.prog.funcs.toList.drop 240).take 20)=true:=by kernel_rfl
theorem amH:h2 cU 260 ((Tryz.prog.funcs.toList.drop 260).take 20)=true:=by kernel_rfl
end Go.Proofs.YtcgjepodnfjggaaGreatDoor
end
