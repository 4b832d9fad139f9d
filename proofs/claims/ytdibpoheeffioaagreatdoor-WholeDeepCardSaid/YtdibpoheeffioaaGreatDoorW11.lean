/- Part 11 of the proof that WholeDeep returns true; no condition. -/
import Derived.Test.YtdibpoheeffioaaGreatDoorW10
import Derived.SevenTiedAt
namespace Go.Proofs.YtdibpoheeffioaaGreatDoor
set_option linter.all false
section
open Go
set_option maxRecDepth 100000
theorem text3:Rows.wholeDeepRow.wfByText (OpenSpec.ofChange Rows.wholeDeepSpec)=true:=by kernel_rfl
theorem main3:Tryz.prog.mainIs=some (true,"7ce6ff289aa0573620842704d200e5d6acf41e52250a2e38d9815443016ea77b".toList):=by kernel_rfl
theorem looks3:true=Tryz.prog.looks []:=by kernel_rfl
theorem goesC:((Tryz.prog.closure 3).any fun g=>(Tryz.prog.funcs[g]?).any Func.goes)=false:=by
  rw [clo]
  kernel_rfl
theorem goesF:Tryz.prog.funcs.any Func.goes=false:=by
  rw [←Array.any_toList]
  kernel_rfl
theorem goesP:Tryz.prog.goes 3=false:=by
  unfold Program.goes;rw [goesC,goesF,Bool.and_false,Bool.or_false]
theorem goesA (P:Program) (s:String) (f:FuncId) (h:P.funcNamed s=some f) (k:P.goes f=false):P.goesAt .entering s=false:=by
  unfold Program.goesAt Program.goesFrom;rw [h];simp only [Option.any_some,k,Bool.or_false]
theorem goes3:false=Rows.wholeDeepRow.goesBy Tryz.prog:=(goesA Tryz.prog Rows.wholeDeepRow.func 3 named3 goesP).symm
theorem stand3:([22,23].all fun u=>!Tryz.prog.wantsStandIn u)=true:=by kernel_rfl
end
end Go.Proofs.YtdibpoheeffioaaGreatDoor
