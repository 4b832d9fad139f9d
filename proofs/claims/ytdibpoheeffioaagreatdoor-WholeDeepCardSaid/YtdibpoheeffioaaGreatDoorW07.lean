/- Part 7 of the proof that WholeDeep returns true; no condition. -/
import Derived.Test.YtdibpoheeffioaaGreatDoorW06
import Derived.Test.YtdibpoheeffioaaGreatDoorRows
import Derived.JoinedOf
import Derived.KernelRfl
namespace Go.Proofs.YtdibpoheeffioaaGreatDoor
set_option linter.all false
section
open Go
set_option maxRecDepth 100000
theorem fact1:(laidOutB Tryz.prog:Bool)=true:=by kernel_rfl
theorem fact2:(mapsRowed Tryz.prog:Bool)=true:=by kernel_rfl
theorem fact9:((Rows.wholeDeepRow.inPlace == Tryz.prog.inPlace 3):Bool)=true:=by kernel_rfl
theorem fact10:((Rows.wholeDeepRow.unfollowed == Tryz.prog.unfollowed 3):Bool)=true:=by kernel_rfl
end
end Go.Proofs.YtdibpoheeffioaaGreatDoor
