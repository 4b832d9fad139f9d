/- Part 8 of the proof that WholeDeep returns true; no condition. -/
import Derived.Test.YtdibpoheeffioaaGreatDoorW07
namespace Go.Proofs.YtdibpoheeffioaaGreatDoor
set_option linter.all false
section
open Go
set_option maxRecDepth 100000
theorem fact11:((Rows.wholeDeepRow.recurses == Tryz.prog.recurses 3):Bool)=true:=by kernel_rfl
theorem fact12:((Rows.wholeDeepRow.named == Tryz.prog.varsNamed 3):Bool)=true:=by kernel_rfl
theorem fact22:((Rows.wholeDeepRow.plainKeys == Tryz.prog.plainKeys):Bool)=true:=by kernel_rfl
theorem fact24:(Tryz.prog.stopsHeard:Bool)=true:=by kernel_rfl
theorem fact25:(Tryz.prog.mayEnter:Bool)=true:=by kernel_rfl
end
end Go.Proofs.YtdibpoheeffioaaGreatDoor
