/- The walk of the statement WholeCodes, text 38. Conditions: each theorem tells its own. -/
import Derived.Test.YtcgjepodnfjggaaGreatDoorRows
import Derived.LaidByTextLater
import Derived.SevenTiedAt
set_option linter.all false
section
namespace Go.Proofs.YtcgjepodnfjggaaGreatDoor
open Go
set_option maxRecDepth 100000
theorem ati:Tryz.prog.funcs.toList.all (fun fn=> !fn.goes)=true:=by kernel_rfl
theorem an0{P:Program}(h:P.funcs.toList.all (fun fn=> !fn.goes)=true)(c:OpenClaim)(aq:c.start=.entering):false=c.goesBy P:=by
 have aB:∀fn∈P.funcs.toList,fn.goes=false:=fun fn aI=>by
  have:=List.all_eq_true.1 h fn aI;simpa using this
 have ab:P.funcs.any Func.goes=false:=by
  rw[←Array.any_toList,List.any_eq_false];intro fn aI;rw[aB fn aI];decide
 have aa:∀g:Nat,(P.funcs[g]?).any Func.goes=false:=fun g=>by
  cases bg:P.funcs[g]? with
  |none=>rfl
  |some fn=>
   show Func.goes fn=false;rw[←Array.getElem?_toList] at bg;exact aB fn (List.mem_of_getElem? bg)
 have bg:∀f,P.goes f=false:=fun f=>by
  unfold Program.goes;have:((P.closure f).any fun g=>(P.funcs[g]?).any Func.goes)=false:=by
   rw[List.any_eq_false];intro g _;rw[aa g];decide
  rw[this,ab,Bool.and_false,Bool.or_false]
 unfold OpenClaim.goesBy Program.goesAt Program.goesFrom;rw[aq,Bool.or_false];cases P.funcNamed c.func with
 |none=>rfl
 |some f=>exact(bg f).symm
theorem aee:false=Rows.wholeCodesRow.goesBy Tryz.pinned.checked.prog:=an0 (P:=Tryz.pinned.checked.prog) ati _ rfl
end Go.Proofs.YtcgjepodnfjggaaGreatDoor
end
