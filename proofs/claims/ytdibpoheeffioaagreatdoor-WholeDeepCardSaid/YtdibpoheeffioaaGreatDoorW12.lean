/- Rows.WholeDeepCardSaid is proved here (card_holds): for every input that can be read the call of WholeDeep returns true and the arguments read behind it as they read before. Conditions: none of ours; the five listed package variables are tied to the program by the given card. -/
import Derived.Test.YtdibpoheeffioaaGreatDoorW11
import Derived.Test.YtdibpoheeffioaaGreatDoorCards
import Derived.Test.YtdibpoheeffioaaGreatDoorTie
import Derived.SevenTiedAt
namespace Go.Proofs.YtdibpoheeffioaaGreatDoor
set_option linter.all false
section
open Go
set_option maxRecDepth 100000
theorem and2 {a b:Bool} (h:a=true) (k:b=true):(a&&b)=true:=by rw [h,k];rfl
theorem closed:joinedFacts Tryz.prog 3 Tryz.f3 Rows.wholeDeepSpec Rows.wholeDeepRow=true:=(and2 (and2 (and2 (and2 (and2 (and2 (and2 (and2 (and2 (and2 (and2 (and2 (and2 (and2 (and2 (and2 (and2 (and2 (and2 (and2 (and2 (and2 (and2 (and2 (and2 (and2 (and2 (and2 (and2 (and2 (and2 fact0 fact1) fact2) fact3) fact4) fact5) fact6) fact7) fact8) fact9) fact10) fact11) fact12) fact13) fact14) fact15) fact16) fact17) fact18) fact19) fact20) fact21) fact22) fact23) fact24) fact25) fact26) fact27) fact28) fact29) fact30) fact31)
theorem row_holds:Rows.WholeDeepSaid :=
  OpenClaim.holds_of_wide 3 Tryz.f3 rfl rfl rfl rfl rfl rfl rfl ⟨rfl,rfl,rfl,rfl,rfl⟩ rfl rfl rfl rfl rfl named3 Tryz.func3 closed inst3 wrap3
    (fun os started H enc _=>lifted os started H enc)
theorem card_holds:Rows.WholeDeepCardSaid :=
  Claim7.holds_tied_plain_at .later [] [.data,.data,.data,.sentinel,.sentinel] true (true,"7ce6ff289aa0573620842704d200e5d6acf41e52250a2e38d9815443016ea77b") true
    row_holds (fun _ h=>by cases h) text3 (fun _ h=>by cases h) wholeDeep_row_tie rfl ⟨rfl,rfl⟩ main3 rfl
    (fun f fn hf hfn=>by
      obtain rfl:f=3:=(Option.some.inj (named3.symm.trans hf)).symm;obtain rfl:fn=Tryz.f3:=(Option.some.inj (Tryz.func3.symm.trans hfn)).symm;exact ⟨looks3,fun j t ht=>by
        rw [Tryz.params3] at ht;have hm:t∈[22,23]:=by simpa using Array.mem_of_getElem? ht
        exact (show Tryz.prog.wantsStandIn t=false by simpa using List.all_eq_true.1 stand3 t hm)⟩)
    goes3
#print axioms card_holds
end
end Go.Proofs.YtdibpoheeffioaaGreatDoor
