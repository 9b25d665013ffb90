/-
  DERIVED. GIVEN WITH THE SEED: THE CARDS: each row of YtddgbffjgkkgiaaGreatDoorRows.lean that lists a variable, with what it lists TIED to the program's text (the seventh form; the later family's looks); each row that meets fmt, with fmt's text TOLD by the authors' own Lean function (tested against real Go, not proved from fmt's source: count such statements apart). THE CARD IS WHAT COUNTS. Prove the row's statement (the work); the ties are given (YtddgbffjgkkgiaaGreatDoorTie.lean); close each card by the builder's one call (the guide's Derived/Test/ToyasCard.lean, 'card_holds'). Laid BY PROGRAM, IN A SANDBOX (cutbox-door.mjs). By AI agents, Wed Nov 11 2026. No macro, syntax, notation, axiom, sorry.
-/
import Derived.Test.YtddgbffjgkkgiaaGreatDoorRows
import GoSem.ClaimSeven
namespace Go.Proofs.YtddgbffjgkkgiaaGreatDoor
namespace Rows

/-- THE TIED CARD OF 'laws.FnSound'. -/
def fnSoundCard : Claim7 := { stood := { row := fnSoundRow, standIns := [], harness := (true, "355a3164f102a48e72c312268196ad3d837e3070d7e9a48d47bb24ae9fe12b8e"), looks := true }, kinds := [], alts := [], laidByText := true, laidKinds := [.data, .data, .data, .sentinel, .sentinel], laidTests := true, laidLooks := .later }
def FnSoundCardSaid : Prop := Claim7.holds Tryz.pinned (.plain (OpenSpec.ofChange fnSoundSpec)) fnSoundCard

/-- THE SECOND FORM's CARD OF 'laws.FnSound'. -/
def fnSoundUptoCard : Claim7 := { stood := { row := fnSoundUptoRow, standIns := [], harness := (true, "355a3164f102a48e72c312268196ad3d837e3070d7e9a48d47bb24ae9fe12b8e"), looks := true }, kinds := [], alts := [], laidByText := true, laidKinds := [.data, .data, .data, .sentinel, .sentinel], laidTests := true, laidLooks := .later }
def FnSoundUptoCardSaid : Prop := Claim7.holds Tryz.pinned (.plain (OpenSpec.upto fnSoundSpec)) fnSoundUptoCard
end Rows
end Go.Proofs.YtddgbffjgkkgiaaGreatDoor
