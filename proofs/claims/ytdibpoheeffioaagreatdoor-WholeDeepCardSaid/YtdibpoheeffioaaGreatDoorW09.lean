/- Part 9 of the proof that WholeDeep returns true; no condition. -/
import Derived.Test.YtdibpoheeffioaaGreatDoorW08
namespace Go.Proofs.YtdibpoheeffioaaGreatDoor
set_option linter.all false
section
open Go
set_option maxRecDepth 100000
theorem fact9:((Rows.wholeDeepRow.inPlace == Tryz.prog.inPlace 3):Bool)=true:=by
  unfold Program.inPlace;rw [clo]
  kernel_rfl
theorem fact10:((Rows.wholeDeepRow.unfollowed == Tryz.prog.unfollowed 3):Bool)=true:=by
  unfold Program.unfollowed;rw [clo]
  kernel_rfl
theorem fact11:((Rows.wholeDeepRow.recurses == Tryz.prog.recurses 3):Bool)=true:=by
  unfold Program.recurses;rw [show Tryz.prog.unfollowed 3=true from (beq_iff_eq.1 fact10).symm,Bool.true_or]
  kernel_rfl
theorem fact12:((Rows.wholeDeepRow.named == Tryz.prog.varsNamed 3):Bool)=true:=by
  unfold Program.varsNamed;rw [clo]
  kernel_rfl
theorem fact22:((Rows.wholeDeepRow.plainKeys == Tryz.prog.plainKeys):Bool)=true:=by kernel_rfl
theorem fact24:(Tryz.prog.stopsHeard:Bool)=true:=by kernel_rfl
theorem fact25:(Tryz.prog.mayEnter:Bool)=true:=by kernel_rfl
end
end Go.Proofs.YtdibpoheeffioaaGreatDoor
