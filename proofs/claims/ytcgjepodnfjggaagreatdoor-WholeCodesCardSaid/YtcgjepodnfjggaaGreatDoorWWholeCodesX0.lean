/- The walk of the statement WholeCodes, text 8. Conditions: each theorem tells its own. -/
import Derived.Test.YtcgjepodnfjggaaGreatDoorRows
import Derived.LaidByTextLater
import Derived.SevenTiedAt
set_option linter.all false
section
namespace Go.Proofs.YtcgjepodnfjggaaGreatDoor
open Go
set_option maxRecDepth 100000
def zr:List (String×DataW Unit):=[("shale/api.ErrRecord",Rows.laid_shale_api_ErrRecord),("shale/api.ErrGeometry",Rows.laid_shale_api_ErrGeometry),("shale/api.ErrLong",Rows.laid_shale_api_ErrLong),("shale/api.ErrCode",Rows.laid_shale_api_ErrCode),("shale/api.ErrField",Rows.laid_shale_api_ErrField),("shale/api.ErrNumber",Rows.laid_shale_api_ErrNumber),("shale/api.ErrMany",Rows.laid_shale_api_ErrMany),("shale/api.ErrDead",Rows.laid_shale_api_ErrDead),("shale/api.ErrOrder",Rows.laid_shale_api_ErrOrder),("shale/api.ErrBad",Rows.laid_shale_api_ErrBad),("shale/api.ErrFailed",Rows.laid_shale_api_ErrFailed),("shale/api.ErrSize",Rows.laid_shale_api_ErrSize),("shale/api.ErrReadOnly",Rows.laid_shale_api_ErrReadOnly),("shale/api.ErrFull",Rows.laid_shale_api_ErrFull),("shale/api.ErrStep",Rows.laid_shale_api_ErrStep),("shale/api.ErrMount",Rows.laid_shale_api_ErrMount),("shale/api.ErrPage",Rows.laid_shale_api_ErrPage),("shale/api.ErrZero",Rows.laid_shale_api_ErrZero)]
theorem aiz:Tryz.prog.worded (varsWordLater true)=true:=by kernel_rfl
theorem aoh:Tryz.prog.worded (varsWordLater !true)=false:=by kernel_rfl
theorem agi:Tryz.prog.worded rootWordLater=true:=by kernel_rfl
theorem auG:zr.map (fun x=>Tryz.prog.kindOfLater x.1)=[.sentinel,.sentinel,.sentinel,.sentinel,.sentinel,.sentinel,.sentinel,.sentinel,.sentinel,.sentinel,.sentinel,.sentinel,.sentinel,.sentinel,.sentinel,.sentinel,.sentinel,.sentinel].map some:=by kernel_rfl
theorem ai4:(Tryz.prog.funcNamed "gosem.cut.vars").isSome=true:=by kernel_rfl
theorem arq:varsNamedLaterB Tryz.prog (varsId Tryz.prog) zr=true:=by kernel_rfl
theorem atm:(zr.all fun x=>x.2.handleName?.isNone)=true:=by kernel_rfl
theorem aoU:Tryz.pinned.checked.prog.headLifts.contains "ownunsafe" =false:=by kernel_rfl
end Go.Proofs.YtcgjepodnfjggaaGreatDoor
end
