/-
  DERIVED. GIVEN WITH THE SEED: THE CARDS: each row of YthpipeokipgafaaGreatDoorRows.lean that lists a variable, with what it lists TIED to the program's text (the seventh form; the later family's looks); each row that meets fmt, with fmt's text TOLD by the authors' own Lean function (tested against real Go, not proved from fmt's source: count such statements apart). THE CARD IS WHAT COUNTS. Prove the row's statement (the work); the ties are given (YthpipeokipgafaaGreatDoorTie.lean); close each card by the builder's one call (the guide's Derived/Test/ToyasCard.lean, 'card_holds'). Laid BY PROGRAM, IN A SANDBOX (cutbox-door.mjs). By AI agents, Wed Nov 11 2026. No macro, syntax, notation, axiom, sorry.
-/
import Derived.Test.YthpipeokipgafaaGreatDoorRows
import GoSem.ClaimSeven
namespace Go.Proofs.YthpipeokipgafaaGreatDoor
namespace Rows

/-- THE TIED CARD OF 'laws.FnChanges'. -/
def fnChangesCard : Claim7 := { stood := { row := fnChangesRow, standIns := [], harness := (true, "89d57ab466fc8e4af0ab958c816f18ef9ef2d4c36bbb1844b519f998361fbeda"), looks := true }, kinds := [], alts := [], laidByText := true, laidKinds := [.data, .data, .data, .sentinel, .sentinel], laidTests := true, laidLooks := .later }
def FnChangesCardSaid : Prop := Claim7.holds Tryz.pinned (.plain (OpenSpec.ofChange fnChangesSpec)) fnChangesCard

/-- THE SECOND FORM's CARD OF 'laws.FnChanges'. -/
def fnChangesUptoCard : Claim7 := { stood := { row := fnChangesUptoRow, standIns := [], harness := (true, "89d57ab466fc8e4af0ab958c816f18ef9ef2d4c36bbb1844b519f998361fbeda"), looks := true }, kinds := [], alts := [], laidByText := true, laidKinds := [.data, .data, .data, .sentinel, .sentinel], laidTests := true, laidLooks := .later }
def FnChangesUptoCardSaid : Prop := Claim7.holds Tryz.pinned (.plain (OpenSpec.upto fnChangesSpec)) fnChangesUptoCard
end Rows
end Go.Proofs.YthpipeokipgafaaGreatDoor
