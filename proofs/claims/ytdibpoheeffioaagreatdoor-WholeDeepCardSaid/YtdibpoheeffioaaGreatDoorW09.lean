/- Rows.WholeDeepCardSaid is proved here (card_holds): for every input that can be read the call of WholeDeep returns true and the arguments read behind it as they read before. Conditions: none of ours; the five listed package variables are tied to the program by the given card. -/
import Derived.Test.YtdibpoheeffioaaGreatDoorW08
import Derived.Test.YtdibpoheeffioaaGreatDoorCards
import Derived.Test.YtdibpoheeffioaaGreatDoorTie
import Derived.SevenTiedAt
namespace Go.Proofs.YtdibpoheeffioaaGreatDoor
set_option linter.all false
section
open Go
set_option maxRecDepth 100000
theorem fact0:(Rows.wholeDeepRow.wf (OpenSpec.ofChange Rows.wholeDeepSpec):Bool)=true:=by kernel_rfl
theorem fact3:(Tryz.f3.params.all (Tryz.prog.readableRec ·):Bool)=true:=by kernel_rfl
theorem fact4:(namedTie Tryz.prog Rows.wholeDeepRow.named Rows.wholeDeepSpec.vars:Bool)=true:=by kernel_rfl
theorem fact5:((Rows.wholeDeepRow.stops == []):Bool)=true:=by kernel_rfl
theorem fact6:((Tryz.prog.stops == []):Bool)=true:=by kernel_rfl
theorem fact7:((Rows.wholeDeepRow.knobs == []):Bool)=true:=by kernel_rfl
theorem fact8:((Tryz.prog.stopKnobs == []):Bool)=true:=by kernel_rfl
theorem fact13:((Rows.wholeDeepRow.maps == (Tryz.f3.params.toList++Rows.wholeDeepSpec.plain.varTypes Tryz.prog).any (Tryz.prog.mapsRec ·)):Bool)=true:=by kernel_rfl
theorem fact14:((Rows.wholeDeepRow.ifaces == (Tryz.f3.params.toList++Rows.wholeDeepSpec.plain.varTypes Tryz.prog).any (Tryz.prog.ifacesRec ·)):Bool)=true:=by kernel_rfl
theorem fact15:((Rows.wholeDeepRow.mapsOut == Tryz.prog.mapsAmong Tryz.f3.resultTypes.toList):Bool)=true:=by kernel_rfl
theorem fact16:((Rows.wholeDeepRow.loops == (Tryz.f3.params.toList++Rows.wholeDeepSpec.plain.varTypes Tryz.prog).any (Tryz.prog.loopsFrom ·)):Bool)=true:=by kernel_rfl
theorem fact17:((Rows.wholeDeepRow.wideKeys == (Tryz.f3.params.toList++Rows.wholeDeepSpec.plain.varTypes Tryz.prog++Tryz.f3.resultTypes.toList).any (Tryz.prog.wideKeysFrom ·)):Bool)=true:=by kernel_rfl
theorem fact18:(Rows.wholeDeepSpec.vars.all (Tryz.prog.varReadable ·):Bool)=true:=by kernel_rfl
theorem fact19:(Tryz.f3.resultTypes.all (fun t=>Tryz.prog.readableRec t&&decide (t<Tryz.prog.types.size)):Bool)=true:=by kernel_rfl
theorem fact20:((Rows.wholeDeepRow.ifacesOut == Tryz.f3.resultTypes.toList.any (Tryz.prog.ifacesRec ·)):Bool)=true:=by kernel_rfl
theorem fact21:((Rows.wholeDeepRow.loopsOut == Tryz.f3.resultTypes.toList.any (Tryz.prog.loopsFrom ·)):Bool)=true:=by kernel_rfl
theorem fact23:(Rows.wholeDeepRow.shortTexts.isNone:Bool)=true:=by kernel_rfl
theorem fact26:((Rows.wholeDeepRow.lifted == Tryz.prog.liftsFinal):Bool)=true:=by kernel_rfl
theorem fact27:((Tryz.prog.make == some Rows.wholeDeepRow.make):Bool)=true:=by kernel_rfl
theorem fact28:((Rows.wholeDeepRow.kinds == (if Rows.wholeDeepRow.domain.isEmpty then [] else Tryz.f3.params.toList.map fun t=>match Tryz.prog.underlying t with | some (.int k)=>some k | _=>none)):Bool)=true:=by kernel_rfl
theorem fact29:((Rows.wholeDeepRow.pinned == Rows.wholeDeepRow.pinnedBy):Bool)=true:=by kernel_rfl
theorem fact30:((Rows.wholeDeepRow.veiled == (Tryz.f3.params.toList++Rows.wholeDeepSpec.plain.varTypes Tryz.prog++Tryz.f3.resultTypes.toList).any (Tryz.prog.veiledRec ·)):Bool)=true:=by kernel_rfl
theorem fact31:(Rows.wholeDeepRow.veiledFits Tryz.prog Tryz.f3.params.toList (Tryz.f3.params.toList++Rows.wholeDeepSpec.plain.varTypes Tryz.prog++Tryz.f3.resultTypes.toList):Bool)=true:=by kernel_rfl
theorem and2 {a b:Bool} (h:a=true) (k:b=true):(a&&b)=true:=by rw [h,k];rfl
theorem closed:joinedFacts Tryz.prog 3 Tryz.f3 Rows.wholeDeepSpec Rows.wholeDeepRow=true:=(and2 (and2 (and2 (and2 (and2 (and2 (and2 (and2 (and2 (and2 (and2 (and2 (and2 (and2 (and2 (and2 (and2 (and2 (and2 (and2 (and2 (and2 (and2 (and2 (and2 (and2 (and2 (and2 (and2 (and2 (and2 fact0 fact1) fact2) fact3) fact4) fact5) fact6) fact7) fact8) fact9) fact10) fact11) fact12) fact13) fact14) fact15) fact16) fact17) fact18) fact19) fact20) fact21) fact22) fact23) fact24) fact25) fact26) fact27) fact28) fact29) fact30) fact31)
theorem named3:Tryz.prog.funcNamed "pedigree/pedigreetop.WholeDeep"=some 3:=by kernel_rfl
theorem inst3:Tryz.f3.isInstance Tryz.prog Rows.wholeDeepRow.origin Rows.wholeDeepRow.targs:=of_decide_eq_true qj
theorem wrap3:Tryz.f3.isWrapper Tryz.prog Rows.wholeDeepRow.wrapper Rows.wholeDeepRow.mainSum:=by
  unfold Func.isWrapper
  first | (rw [if_pos (by decide +kernel)];kernel_rfl) | (rw [if_neg (by decide +kernel)];exact ⟨rfl,rfl⟩)
theorem row_holds:Rows.WholeDeepSaid :=
  OpenClaim.holds_of_wide 3 Tryz.f3 rfl rfl rfl rfl rfl rfl rfl ⟨rfl,rfl,rfl,rfl,rfl⟩ rfl rfl rfl rfl rfl named3 Tryz.func3 closed inst3 wrap3
    (fun os started H enc _=>lifted os started H enc)
theorem text3:Rows.wholeDeepRow.wfByText (OpenSpec.ofChange Rows.wholeDeepSpec)=true:=by kernel_rfl
theorem main3:Tryz.prog.mainIs=some (true,"7ce6ff289aa0573620842704d200e5d6acf41e52250a2e38d9815443016ea77b".toList):=by kernel_rfl
theorem looks3:true=Tryz.prog.looks []:=by kernel_rfl
theorem goes3:false=Rows.wholeDeepRow.goesBy Tryz.prog:=by kernel_rfl
theorem stand3:([22,23].all fun u=>!Tryz.prog.wantsStandIn u)=true:=by kernel_rfl
theorem card_holds:Rows.WholeDeepCardSaid :=
  Claim7.holds_tied_plain_at .later [] [.data,.data,.data,.sentinel,.sentinel] true (true,"7ce6ff289aa0573620842704d200e5d6acf41e52250a2e38d9815443016ea77b") true
    row_holds (fun _ h=>by cases h) text3 (fun _ h=>by cases h) wholeDeep_row_tie rfl ⟨rfl,rfl⟩ main3 rfl
    (fun f fn hf hfn=>by
      obtain rfl:f=3:=(Option.some.inj (named3.symm.trans hf)).symm;obtain rfl:fn=Tryz.f3:=(Option.some.inj (Tryz.func3.symm.trans hfn)).symm;exact ⟨looks3,fun j t ht=>by
        rw [Tryz.params3] at ht;have hm:t∈[22,23]:=by simpa using Array.mem_of_getElem? ht
        exact (show Tryz.prog.wantsStandIn t=false by simpa using List.all_eq_true.1 stand3 t hm)⟩)
    goes3
#print axioms card_holds
end
end Go.Proofs.YtdibpoheeffioaaGreatDoor
