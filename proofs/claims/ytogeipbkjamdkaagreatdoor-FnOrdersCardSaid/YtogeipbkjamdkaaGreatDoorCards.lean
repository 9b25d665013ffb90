/-
  DERIVED. GIVEN WITH THE SEED: THE CARDS: each row of YtogeipbkjamdkaaGreatDoorRows.lean that lists a variable, with what it lists TIED to the program's text (the seventh form; the later family's looks); each row that meets fmt, with fmt's text TOLD by the authors' own Lean function (tested against real Go, not proved from fmt's source: count such statements apart). THE CARD IS WHAT COUNTS. Prove the row's statement (the work); the ties are given (YtogeipbkjamdkaaGreatDoorTie.lean); close each card by the builder's one call (the guide's Derived/Test/ToyasCard.lean, 'card_holds'). Laid BY PROGRAM, IN A SANDBOX (cutbox-door.mjs). By AI agents, Wed Nov 11 2026. No macro, syntax, notation, axiom, sorry.
-/
import Derived.Test.YtogeipbkjamdkaaGreatDoorRows
import GoSem.ClaimSeven
namespace Go.Proofs.YtogeipbkjamdkaaGreatDoor
namespace Rows

/-- THE TIED CARD OF 'laws.FnOrders'. -/
def fnOrdersCard : Claim7 := { stood := { row := fnOrdersRow, standIns := [], harness := (true, "77e161ff594c7b4735f3e8d80f0a62474549f2cd752dadc0658c25615dca7356"), looks := false }, kinds := [], alts := [], laidByText := true, laidKinds := [.data, .data, .data], laidTests := true, laidLooks := .later }
def FnOrdersCardSaid : Prop := Claim7.holds Tryz.pinned (.plain (OpenSpec.ofChange fnOrdersSpec)) fnOrdersCard

/-- THE SECOND FORM's CARD OF 'laws.FnOrders'. -/
def fnOrdersUptoCard : Claim7 := { stood := { row := fnOrdersUptoRow, standIns := [], harness := (true, "77e161ff594c7b4735f3e8d80f0a62474549f2cd752dadc0658c25615dca7356"), looks := false }, kinds := [], alts := [], laidByText := true, laidKinds := [.data, .data, .data], laidTests := true, laidLooks := .later }
def FnOrdersUptoCardSaid : Prop := Claim7.holds Tryz.pinned (.plain (OpenSpec.upto fnOrdersSpec)) fnOrdersUptoCard
end Rows
end Go.Proofs.YtogeipbkjamdkaaGreatDoor
