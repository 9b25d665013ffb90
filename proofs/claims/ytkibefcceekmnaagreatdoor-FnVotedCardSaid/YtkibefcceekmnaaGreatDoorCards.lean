/-
  DERIVED. GIVEN WITH THE SEED: THE CARDS: each row of YtkibefcceekmnaaGreatDoorRows.lean that lists a variable, with what it lists TIED to the program's text (the seventh form; the later family's looks); each row that meets fmt, with fmt's text TOLD by the authors' own Lean function (tested against real Go, not proved from fmt's source: count such statements apart). THE CARD IS WHAT COUNTS. Prove the row's statement (the work); the ties are given (YtkibefcceekmnaaGreatDoorTie.lean); close each card by the builder's one call (the guide's Derived/Test/ToyasCard.lean, 'card_holds'). Laid BY PROGRAM, IN A SANDBOX (cutbox-door.mjs). By AI agents, Wed Nov 11 2026. No macro, syntax, notation, axiom, sorry.
-/
import Derived.Test.YtkibefcceekmnaaGreatDoorRows
import GoSem.ClaimSeven
namespace Go.Proofs.YtkibefcceekmnaaGreatDoor
namespace Rows

/-- THE TIED CARD OF 'laws.FnVoted'. -/
def fnVotedCard : Claim7 := { stood := { row := fnVotedRow, standIns := [], harness := (true, "72dfda6577cd17bf831ed8003931d72c8ded9a5fa589595efad4f162e674fca9"), looks := true }, kinds := [], alts := [], laidByText := true, laidKinds := [.data, .data, .data, .sentinel, .sentinel], laidTests := true, laidLooks := .later }
def FnVotedCardSaid : Prop := Claim7.holds Tryz.pinned (.plain (OpenSpec.ofChange fnVotedSpec)) fnVotedCard

/-- THE SECOND FORM's CARD OF 'laws.FnVoted'. -/
def fnVotedUptoCard : Claim7 := { stood := { row := fnVotedUptoRow, standIns := [], harness := (true, "72dfda6577cd17bf831ed8003931d72c8ded9a5fa589595efad4f162e674fca9"), looks := true }, kinds := [], alts := [], laidByText := true, laidKinds := [.data, .data, .data, .sentinel, .sentinel], laidTests := true, laidLooks := .later }
def FnVotedUptoCardSaid : Prop := Claim7.holds Tryz.pinned (.plain (OpenSpec.upto fnVotedSpec)) fnVotedUptoCard
end Rows
end Go.Proofs.YtkibefcceekmnaaGreatDoor
