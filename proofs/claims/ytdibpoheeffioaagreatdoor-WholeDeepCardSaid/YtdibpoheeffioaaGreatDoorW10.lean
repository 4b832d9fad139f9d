/- Part 10 of the proof that WholeDeep returns true; no condition. -/
import Derived.Test.YtdibpoheeffioaaGreatDoorW09
namespace Go.Proofs.YtdibpoheeffioaaGreatDoor
set_option linter.all false
section
open Go
set_option maxRecDepth 100000
theorem fact0:(Rows.wholeDeepRow.wf (OpenSpec.ofChange Rows.wholeDeepSpec):Bool)=true:=by kernel_rfl
theorem fact3:(Tryz.f3.params.all (Tryz.prog.readableRec ·):Bool)=true:=by kernel_rfl
theorem fact4:(namedTie Tryz.prog Rows.wholeDeepRow.named Rows.wholeDeepSpec.vars:Bool)=true:=by kernel_rfl
theorem fact5:((Rows.wholeDeepRow.stops == []):Bool)=true:=by kernel_rfl
theorem fact6:((Tryz.prog.stops == []):Bool)=true:=by kernel_rfl
theorem fact7:((Rows.wholeDeepRow.knobs == []):Bool)=true:=by kernel_rfl
theorem fact8:((Tryz.prog.stopKnobs == []):Bool)=true:=by kernel_rfl
theorem fact13:((Rows.wholeDeepRow.maps == (Tryz.f3.params.toList++Rows.wholeDeepSpec.plain.varTypes Tryz.prog).any (Tryz.prog.mapsRec ·)):Bool)=true:=by kernel_rfl
theorem fact14:((Rows.wholeDeepRow.ifaces == (Tryz.f3.params.toList++Rows.wholeDeepSpec.plain.varTypes Tryz.prog).any (Tryz.prog.ifacesRec ·)):Bool)=true:=by kernel_rfl
theorem fact15:((Rows.wholeDeepRow.mapsOut == Tryz.prog.mapsAmong Tryz.f3.resultTypes.toList):Bool)=true:=by kernel_rfl
theorem fact16:((Rows.wholeDeepRow.loops == (Tryz.f3.params.toList++Rows.wholeDeepSpec.plain.varTypes Tryz.prog).any (Tryz.prog.loopsFrom ·)):Bool)=true:=by kernel_rfl
theorem fact17:((Rows.wholeDeepRow.wideKeys == (Tryz.f3.params.toList++Rows.wholeDeepSpec.plain.varTypes Tryz.prog++Tryz.f3.resultTypes.toList).any (Tryz.prog.wideKeysFrom ·)):Bool)=true:=by kernel_rfl
theorem fact18:(Rows.wholeDeepSpec.vars.all (Tryz.prog.varReadable ·):Bool)=true:=by kernel_rfl
theorem fact19:(Tryz.f3.resultTypes.all (fun t=>Tryz.prog.readableRec t&&decide (t<Tryz.prog.types.size)):Bool)=true:=by kernel_rfl
theorem fact20:((Rows.wholeDeepRow.ifacesOut == Tryz.f3.resultTypes.toList.any (Tryz.prog.ifacesRec ·)):Bool)=true:=by kernel_rfl
theorem fact21:((Rows.wholeDeepRow.loopsOut == Tryz.f3.resultTypes.toList.any (Tryz.prog.loopsFrom ·)):Bool)=true:=by kernel_rfl
theorem fact23:(Rows.wholeDeepRow.shortTexts.isNone:Bool)=true:=by kernel_rfl
theorem fact26:((Rows.wholeDeepRow.lifted == Tryz.prog.liftsFinal):Bool)=true:=by kernel_rfl
theorem fact27:((Tryz.prog.make == some Rows.wholeDeepRow.make):Bool)=true:=by kernel_rfl
theorem fact28:((Rows.wholeDeepRow.kinds == (if Rows.wholeDeepRow.domain.isEmpty then [] else Tryz.f3.params.toList.map fun t=>match Tryz.prog.underlying t with | some (.int k)=>some k | _=>none)):Bool)=true:=by kernel_rfl
theorem fact29:((Rows.wholeDeepRow.pinned == Rows.wholeDeepRow.pinnedBy):Bool)=true:=by kernel_rfl
theorem fact30:((Rows.wholeDeepRow.veiled == (Tryz.f3.params.toList++Rows.wholeDeepSpec.plain.varTypes Tryz.prog++Tryz.f3.resultTypes.toList).any (Tryz.prog.veiledRec ·)):Bool)=true:=by kernel_rfl
theorem fact31:(Rows.wholeDeepRow.veiledFits Tryz.prog Tryz.f3.params.toList (Tryz.f3.params.toList++Rows.wholeDeepSpec.plain.varTypes Tryz.prog++Tryz.f3.resultTypes.toList):Bool)=true:=by kernel_rfl
theorem named3:Tryz.prog.funcNamed "pedigree/pedigreetop.WholeDeep"=some 3:=by kernel_rfl
theorem inst3:Tryz.f3.isInstance Tryz.prog Rows.wholeDeepRow.origin Rows.wholeDeepRow.targs:=of_decide_eq_true qj
theorem wrap3:Tryz.f3.isWrapper Tryz.prog Rows.wholeDeepRow.wrapper Rows.wholeDeepRow.mainSum:=by
  unfold Func.isWrapper
  first | (rw [if_pos (by decide +kernel)];kernel_rfl) | (rw [if_neg (by decide +kernel)];exact ⟨rfl,rfl⟩)
end
end Go.Proofs.YtdibpoheeffioaaGreatDoor
