/-
  DERIVED. GIVEN WITH THE SEED: THE CARDS: each row of YtmggojkfhodjbaaGreatDoorRows.lean that lists a variable, with what it lists TIED to the program's text (the seventh form; the later family's looks); each row that meets fmt, with fmt's text TOLD by the authors' own Lean function (tested against real Go, not proved from fmt's source: count such statements apart). THE CARD IS WHAT COUNTS. Prove the row's statement (the work); the ties are given (YtmggojkfhodjbaaGreatDoorTie.lean); close each card by the builder's one call (the guide's Derived/Test/ToyasCard.lean, 'card_holds'). Laid BY PROGRAM, IN A SANDBOX (cutbox-door.mjs). By AI agents, Wed Nov 11 2026. No macro, syntax, notation, axiom, sorry.
-/
import Derived.Test.YtmggojkfhodjbaaGreatDoorRows
import GoSem.ClaimSeven
namespace Go.Proofs.YtmggojkfhodjbaaGreatDoor
namespace Rows

/-- THE TIED CARD OF 'laws.FnHistories'. -/
def fnHistoriesCard : Claim7 := { stood := { row := fnHistoriesRow, standIns := [], harness := (true, "8e67856f795829ed4e373fa3fd58503d6f94e3b89b9ebd59d5fc7c70c4fa82f8"), looks := true }, kinds := [], alts := [], laidByText := true, laidKinds := [.data, .data, .data, .sentinel, .sentinel], laidTests := true, laidLooks := .later }
def FnHistoriesCardSaid : Prop := Claim7.holds Tryz.pinned (.plain (OpenSpec.ofChange fnHistoriesSpec)) fnHistoriesCard

/-- THE SECOND FORM's CARD OF 'laws.FnHistories'. -/
def fnHistoriesUptoCard : Claim7 := { stood := { row := fnHistoriesUptoRow, standIns := [], harness := (true, "8e67856f795829ed4e373fa3fd58503d6f94e3b89b9ebd59d5fc7c70c4fa82f8"), looks := true }, kinds := [], alts := [], laidByText := true, laidKinds := [.data, .data, .data, .sentinel, .sentinel], laidTests := true, laidLooks := .later }
def FnHistoriesUptoCardSaid : Prop := Claim7.holds Tryz.pinned (.plain (OpenSpec.upto fnHistoriesSpec)) fnHistoriesUptoCard
end Rows
end Go.Proofs.YtmggojkfhodjbaaGreatDoor
