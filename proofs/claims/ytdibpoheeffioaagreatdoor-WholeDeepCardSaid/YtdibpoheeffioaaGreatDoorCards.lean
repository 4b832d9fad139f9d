/-
  DERIVED. GIVEN WITH THE SEED: THE CARDS: each row of YtdibpoheeffioaaGreatDoorRows.lean that lists a variable, with what it lists TIED to the program's text (the seventh form; the later family's looks); each row that meets fmt, with fmt's text TOLD by the authors' own Lean function (tested against real Go, not proved from fmt's source: count such statements apart). THE CARD IS WHAT COUNTS. Prove the row's statement (the work); the ties are given (YtdibpoheeffioaaGreatDoorTie.lean); close each card by the builder's one call (the guide's Derived/Test/ToyasCard.lean, 'card_holds'). Laid BY PROGRAM, IN A SANDBOX (cutbox-door.mjs). By AI agents, Wed Nov 11 2026. No macro, syntax, notation, axiom, sorry.
-/
import Derived.Test.YtdibpoheeffioaaGreatDoorRows
import GoSem.ClaimSeven
namespace Go.Proofs.YtdibpoheeffioaaGreatDoor
namespace Rows

/-- THE TIED CARD OF 'pedigreetop.WholeDeep'. -/
def wholeDeepCard : Claim7 := { stood := { row := wholeDeepRow, standIns := [], harness := (true, "7ce6ff289aa0573620842704d200e5d6acf41e52250a2e38d9815443016ea77b"), looks := true }, kinds := [], alts := [], laidByText := true, laidKinds := [.data, .data, .data, .sentinel, .sentinel], laidTests := true, laidLooks := .later }
def WholeDeepCardSaid : Prop := Claim7.holds Tryz.pinned (.plain (OpenSpec.ofChange wholeDeepSpec)) wholeDeepCard

/-- THE SECOND FORM's CARD OF 'pedigreetop.WholeDeep'. -/
def wholeDeepUptoCard : Claim7 := { stood := { row := wholeDeepUptoRow, standIns := [], harness := (true, "7ce6ff289aa0573620842704d200e5d6acf41e52250a2e38d9815443016ea77b"), looks := true }, kinds := [], alts := [], laidByText := true, laidKinds := [.data, .data, .data, .sentinel, .sentinel], laidTests := true, laidLooks := .later }
def WholeDeepUptoCardSaid : Prop := Claim7.holds Tryz.pinned (.plain (OpenSpec.upto wholeDeepSpec)) wholeDeepUptoCard
end Rows
end Go.Proofs.YtdibpoheeffioaaGreatDoor
