/-
  No cell of these rows narrows 'for every input' (looked for: loops, veiled, ifaces, maps, wideKeys, modest, calm, conditions, laid).
  DERIVED. THE GIVEN ROWS OF THIS SEAT. 12 by the template 'for every input the law returns true; each argument reads behind the call as it read before'; 0 by the template 'total and deterministic' (their statements: YtakmheeaofhflaaTotals.lean).
  GIVEN WITH THE SEED: the statements are not yours to turn. If you find one false, say at which input.
  Laid BY PROGRAM, IN A SANDBOX (cutbox-rows.mjs): the forced cells as the released guide's own fill.sh prints them over the translation 8654cc1200a0a954… (all of the seat's roots in one cut). By AI agents, Wed Nov 11 2026. No macro, syntax, notation, axiom, sorry.
-/
import Derived.Test.YtakmheeaofhflaaChecked
import GoSem.Claim
import GoSem.ClaimJoined
import GoSem.ClaimMapViews
import Derived.JoinedTies
import Derived.KernelRfl
namespace Go.Proofs.Ytakmheeaofhflaa
/- THE CELL 'sum', in the pinned program and in every row, IS THE sha256 OF THE DUMP (.gsa) THAT YtakmheeaofhflaaProg.lean LOADS. Nothing in Lean hashes anything: it is a label: what it is worth is what the hold of that sum in a sandbox is worth. -/
noncomputable def Try.pinned : Pinned := { name := "ytakmheeaofhflaa", sum := "8654cc1200a0a954894552efa24d03b801b016f6817e970207cef4640c2a551d", checked := Try.checked }
namespace Rows
def none {H : Type} : Left H := { results := [], args := [] }

/-- 'laws.FnExactWayFor': WHATEVER THE INPUT: true; the input reads as it did. -/
def fnExactWayForSpec : ChangeSpec := { name := "fnExactWayFor", fn := fun _ => fun
  | [d1, d2, d3] => { results := [.lit (.bool true)], args := [d1, d2, d3] }
  | _ => none }
def fnExactWayForRow : OpenClaim := { program := "ytakmheeaofhflaa", sum := "8654cc1200a0a954894552efa24d03b801b016f6817e970207cef4640c2a551d", func := "loop.example/g00850/laws.FnExactWayFor", spec := "fnExactWayFor", inPlace := ["internal/bytealg.IndexByteString", "slices.overlaps[string]", "slices.overlaps[int]"], unfollowed := true, recurses := true, apart := false }
def FnExactWayForSaid : Prop := fnExactWayForRow.holds Try.pinned (OpenSpec.ofChange fnExactWayForSpec)

/-- ITS FALSE NEIGHBOUR: 'it returns false'. Refute it at one input. -/
def fnExactWayForWrong : ChangeSpec := { name := "fnExactWayFor", fn := fun _ => fun
  | [d1, d2, d3] => { results := [.lit (.bool false)], args := [d1, d2, d3] }
  | _ => none }
def FnExactWayForWrongFalsely : Prop := fnExactWayForRow.holds Try.pinned (OpenSpec.ofChange fnExactWayForWrong)

/-- 'laws.FnExactFeedCells': WHATEVER THE INPUT: true; the input reads as it did. -/
def fnExactFeedCellsSpec : ChangeSpec := { name := "fnExactFeedCells", fn := fun _ => fun
  | [d1, d2, d3] => { results := [.lit (.bool true)], args := [d1, d2, d3] }
  | _ => none }
def fnExactFeedCellsRow : OpenClaim := { program := "ytakmheeaofhflaa", sum := "8654cc1200a0a954894552efa24d03b801b016f6817e970207cef4640c2a551d", func := "loop.example/g00850/laws.FnExactFeedCells", spec := "fnExactFeedCells", inPlace := ["internal/bytealg.IndexByteString", "slices.overlaps[loop.example/g00850/impl.Cell]"], unfollowed := true, recurses := true, apart := false }
def FnExactFeedCellsSaid : Prop := fnExactFeedCellsRow.holds Try.pinned (OpenSpec.ofChange fnExactFeedCellsSpec)

/-- ITS FALSE NEIGHBOUR: 'it returns false'. Refute it at one input. -/
def fnExactFeedCellsWrong : ChangeSpec := { name := "fnExactFeedCells", fn := fun _ => fun
  | [d1, d2, d3] => { results := [.lit (.bool false)], args := [d1, d2, d3] }
  | _ => none }
def FnExactFeedCellsWrongFalsely : Prop := fnExactFeedCellsRow.holds Try.pinned (OpenSpec.ofChange fnExactFeedCellsWrong)

/-- 'laws.FnExactStepMove': WHATEVER THE INPUT: true; the input reads as it did. -/
def fnExactStepMoveSpec : ChangeSpec := { name := "fnExactStepMove", fn := fun _ => fun
  | [d1, d2] => { results := [.lit (.bool true)], args := [d1, d2] }
  | _ => none }
def fnExactStepMoveRow : OpenClaim := { program := "ytakmheeaofhflaa", sum := "8654cc1200a0a954894552efa24d03b801b016f6817e970207cef4640c2a551d", func := "loop.example/g00850/laws.FnExactStepMove", spec := "fnExactStepMove", inPlace := ["internal/bytealg.IndexByteString", "slices.overlaps[loop.example/g00850/impl.Write]"], unfollowed := true, recurses := true, apart := false }
def FnExactStepMoveSaid : Prop := fnExactStepMoveRow.holds Try.pinned (OpenSpec.ofChange fnExactStepMoveSpec)

/-- ITS FALSE NEIGHBOUR: 'it returns false'. Refute it at one input. -/
def fnExactStepMoveWrong : ChangeSpec := { name := "fnExactStepMove", fn := fun _ => fun
  | [d1, d2] => { results := [.lit (.bool false)], args := [d1, d2] }
  | _ => none }
def FnExactStepMoveWrongFalsely : Prop := fnExactStepMoveRow.holds Try.pinned (OpenSpec.ofChange fnExactStepMoveWrong)

/-- 'laws.FnExactTellGroup': WHATEVER THE INPUT: true; the input reads as it did. -/
def fnExactTellGroupSpec : ChangeSpec := { name := "fnExactTellGroup", fn := fun _ => fun
  | [d1, d2, d3] => { results := [.lit (.bool true)], args := [d1, d2, d3] }
  | _ => none }
def fnExactTellGroupRow : OpenClaim := { program := "ytakmheeaofhflaa", sum := "8654cc1200a0a954894552efa24d03b801b016f6817e970207cef4640c2a551d", func := "loop.example/g00850/laws.FnExactTellGroup", spec := "fnExactTellGroup", inPlace := ["internal/bytealg.IndexByteString", "slices.overlaps[string]", "slices.overlaps[int]"], unfollowed := true, recurses := true, apart := false }
def FnExactTellGroupSaid : Prop := fnExactTellGroupRow.holds Try.pinned (OpenSpec.ofChange fnExactTellGroupSpec)

/-- ITS FALSE NEIGHBOUR: 'it returns false'. Refute it at one input. -/
def fnExactTellGroupWrong : ChangeSpec := { name := "fnExactTellGroup", fn := fun _ => fun
  | [d1, d2, d3] => { results := [.lit (.bool false)], args := [d1, d2, d3] }
  | _ => none }
def FnExactTellGroupWrongFalsely : Prop := fnExactTellGroupRow.holds Try.pinned (OpenSpec.ofChange fnExactTellGroupWrong)

/-- 'laws.FnExactAddMap': WHATEVER THE INPUT: true; the input reads as it did. -/
def fnExactAddMapSpec : ChangeSpec := { name := "fnExactAddMap", fn := fun _ => fun
  | [d1, d2] => { results := [.lit (.bool true)], args := [d1, d2] }
  | _ => none }
def fnExactAddMapRow : OpenClaim := { program := "ytakmheeaofhflaa", sum := "8654cc1200a0a954894552efa24d03b801b016f6817e970207cef4640c2a551d", func := "loop.example/g00850/laws.FnExactAddMap", spec := "fnExactAddMap", inPlace := ["internal/bytealg.IndexByteString", "slices.overlaps[string]", "slices.overlaps[int]"], unfollowed := true, recurses := true, apart := false }
def FnExactAddMapSaid : Prop := fnExactAddMapRow.holds Try.pinned (OpenSpec.ofChange fnExactAddMapSpec)

/-- ITS FALSE NEIGHBOUR: 'it returns false'. Refute it at one input. -/
def fnExactAddMapWrong : ChangeSpec := { name := "fnExactAddMap", fn := fun _ => fun
  | [d1, d2] => { results := [.lit (.bool false)], args := [d1, d2] }
  | _ => none }
def FnExactAddMapWrongFalsely : Prop := fnExactAddMapRow.holds Try.pinned (OpenSpec.ofChange fnExactAddMapWrong)

/-- 'laws.FnExactPlayMove': WHATEVER THE INPUT: true; the input reads as it did. -/
def fnExactPlayMoveSpec : ChangeSpec := { name := "fnExactPlayMove", fn := fun _ => fun
  | [d1, d2] => { results := [.lit (.bool true)], args := [d1, d2] }
  | _ => none }
def fnExactPlayMoveRow : OpenClaim := { program := "ytakmheeaofhflaa", sum := "8654cc1200a0a954894552efa24d03b801b016f6817e970207cef4640c2a551d", func := "loop.example/g00850/laws.FnExactPlayMove", spec := "fnExactPlayMove", inPlace := ["internal/bytealg.IndexByteString", "slices.overlaps[loop.example/g00850/impl.Write]"], unfollowed := true, recurses := true, apart := false }
def FnExactPlayMoveSaid : Prop := fnExactPlayMoveRow.holds Try.pinned (OpenSpec.ofChange fnExactPlayMoveSpec)

/-- ITS FALSE NEIGHBOUR: 'it returns false'. Refute it at one input. -/
def fnExactPlayMoveWrong : ChangeSpec := { name := "fnExactPlayMove", fn := fun _ => fun
  | [d1, d2] => { results := [.lit (.bool false)], args := [d1, d2] }
  | _ => none }
def FnExactPlayMoveWrongFalsely : Prop := fnExactPlayMoveRow.holds Try.pinned (OpenSpec.ofChange fnExactPlayMoveWrong)

/-- 'laws.FnPlaces': WHATEVER THE INPUT: true; the input reads as it did. -/
def fnPlacesSpec : ChangeSpec := { name := "fnPlaces", fn := fun _ => fun
  | [d1, d2] => { results := [.lit (.bool true)], args := [d1, d2] }
  | _ => none }
def fnPlacesRow : OpenClaim := { program := "ytakmheeaofhflaa", sum := "8654cc1200a0a954894552efa24d03b801b016f6817e970207cef4640c2a551d", func := "loop.example/g00850/laws.FnPlaces", spec := "fnPlaces", inPlace := ["internal/bytealg.IndexByteString", "slices.overlaps[string]", "slices.overlaps[int]"], unfollowed := true, recurses := true, apart := false }
def FnPlacesSaid : Prop := fnPlacesRow.holds Try.pinned (OpenSpec.ofChange fnPlacesSpec)

/-- ITS FALSE NEIGHBOUR: 'it returns false'. Refute it at one input. -/
def fnPlacesWrong : ChangeSpec := { name := "fnPlaces", fn := fun _ => fun
  | [d1, d2] => { results := [.lit (.bool false)], args := [d1, d2] }
  | _ => none }
def FnPlacesWrongFalsely : Prop := fnPlacesRow.holds Try.pinned (OpenSpec.ofChange fnPlacesWrong)

/-- 'laws.FnWays': WHATEVER THE INPUT: true; the input reads as it did. -/
def fnWaysSpec : ChangeSpec := { name := "fnWays", fn := fun _ => fun
  | [d1, d2] => { results := [.lit (.bool true)], args := [d1, d2] }
  | _ => none }
def fnWaysRow : OpenClaim := { program := "ytakmheeaofhflaa", sum := "8654cc1200a0a954894552efa24d03b801b016f6817e970207cef4640c2a551d", func := "loop.example/g00850/laws.FnWays", spec := "fnWays", inPlace := ["internal/bytealg.IndexByteString", "slices.overlaps[string]", "slices.overlaps[int]"], unfollowed := true, recurses := true, apart := false }
def FnWaysSaid : Prop := fnWaysRow.holds Try.pinned (OpenSpec.ofChange fnWaysSpec)

/-- ITS FALSE NEIGHBOUR: 'it returns false'. Refute it at one input. -/
def fnWaysWrong : ChangeSpec := { name := "fnWays", fn := fun _ => fun
  | [d1, d2] => { results := [.lit (.bool false)], args := [d1, d2] }
  | _ => none }
def FnWaysWrongFalsely : Prop := fnWaysRow.holds Try.pinned (OpenSpec.ofChange fnWaysWrong)

/-- 'laws.FnHands': WHATEVER THE INPUT: true; the input reads as it did. -/
def fnHandsSpec : ChangeSpec := { name := "fnHands", fn := fun _ => fun
  | [d1, d2] => { results := [.lit (.bool true)], args := [d1, d2] }
  | _ => none }
def fnHandsRow : OpenClaim := { program := "ytakmheeaofhflaa", sum := "8654cc1200a0a954894552efa24d03b801b016f6817e970207cef4640c2a551d", func := "loop.example/g00850/laws.FnHands", spec := "fnHands", inPlace := ["internal/bytealg.IndexByteString", "slices.overlaps[loop.example/g00850/impl.Write]"], unfollowed := true, recurses := true, apart := false }
def FnHandsSaid : Prop := fnHandsRow.holds Try.pinned (OpenSpec.ofChange fnHandsSpec)

/-- ITS FALSE NEIGHBOUR: 'it returns false'. Refute it at one input. -/
def fnHandsWrong : ChangeSpec := { name := "fnHands", fn := fun _ => fun
  | [d1, d2] => { results := [.lit (.bool false)], args := [d1, d2] }
  | _ => none }
def FnHandsWrongFalsely : Prop := fnHandsRow.holds Try.pinned (OpenSpec.ofChange fnHandsWrong)

/-- 'laws.FnMoveReads': WHATEVER THE INPUT: true; the input reads as it did. -/
def fnMoveReadsSpec : ChangeSpec := { name := "fnMoveReads", fn := fun _ => fun
  | [d1, d2] => { results := [.lit (.bool true)], args := [d1, d2] }
  | _ => none }
def fnMoveReadsRow : OpenClaim := { program := "ytakmheeaofhflaa", sum := "8654cc1200a0a954894552efa24d03b801b016f6817e970207cef4640c2a551d", func := "loop.example/g00850/laws.FnMoveReads", spec := "fnMoveReads", inPlace := ["internal/bytealg.IndexByteString", "slices.overlaps[loop.example/g00850/impl.Write]"], unfollowed := true, recurses := true, apart := false }
def FnMoveReadsSaid : Prop := fnMoveReadsRow.holds Try.pinned (OpenSpec.ofChange fnMoveReadsSpec)

/-- ITS FALSE NEIGHBOUR: 'it returns false'. Refute it at one input. -/
def fnMoveReadsWrong : ChangeSpec := { name := "fnMoveReads", fn := fun _ => fun
  | [d1, d2] => { results := [.lit (.bool false)], args := [d1, d2] }
  | _ => none }
def FnMoveReadsWrongFalsely : Prop := fnMoveReadsRow.holds Try.pinned (OpenSpec.ofChange fnMoveReadsWrong)

/-- 'laws.FnMoves': WHATEVER THE INPUT: true; the input reads as it did. -/
def fnMovesSpec : ChangeSpec := { name := "fnMoves", fn := fun _ => fun
  | [d1, d2] => { results := [.lit (.bool true)], args := [d1, d2] }
  | _ => none }
def fnMovesRow : OpenClaim := { program := "ytakmheeaofhflaa", sum := "8654cc1200a0a954894552efa24d03b801b016f6817e970207cef4640c2a551d", func := "loop.example/g00850/laws.FnMoves", spec := "fnMoves", inPlace := ["internal/bytealg.IndexByteString", "slices.overlaps[loop.example/g00850/impl.Write]"], unfollowed := true, recurses := true, apart := false }
def FnMovesSaid : Prop := fnMovesRow.holds Try.pinned (OpenSpec.ofChange fnMovesSpec)

/-- ITS FALSE NEIGHBOUR: 'it returns false'. Refute it at one input. -/
def fnMovesWrong : ChangeSpec := { name := "fnMoves", fn := fun _ => fun
  | [d1, d2] => { results := [.lit (.bool false)], args := [d1, d2] }
  | _ => none }
def FnMovesWrongFalsely : Prop := fnMovesRow.holds Try.pinned (OpenSpec.ofChange fnMovesWrong)

/-- 'laws.FnAtlases': WHATEVER THE INPUT: true; the input reads as it did. -/
def fnAtlasesSpec : ChangeSpec := { name := "fnAtlases", fn := fun _ => fun
  | [d1, d2] => { results := [.lit (.bool true)], args := [d1, d2] }
  | _ => none }
def fnAtlasesRow : OpenClaim := { program := "ytakmheeaofhflaa", sum := "8654cc1200a0a954894552efa24d03b801b016f6817e970207cef4640c2a551d", func := "loop.example/g00850/laws.FnAtlases", spec := "fnAtlases", inPlace := ["internal/bytealg.IndexByteString", "slices.overlaps[string]", "slices.overlaps[int]"], unfollowed := true, recurses := true, apart := false }
def FnAtlasesSaid : Prop := fnAtlasesRow.holds Try.pinned (OpenSpec.ofChange fnAtlasesSpec)

/-- ITS FALSE NEIGHBOUR: 'it returns false'. Refute it at one input. -/
def fnAtlasesWrong : ChangeSpec := { name := "fnAtlases", fn := fun _ => fun
  | [d1, d2] => { results := [.lit (.bool false)], args := [d1, d2] }
  | _ => none }
def FnAtlasesWrongFalsely : Prop := fnAtlasesRow.holds Try.pinned (OpenSpec.ofChange fnAtlasesWrong)

/- THE SECOND FORM. 'bulk': how many values and letters a reading holds, each counted each time it is reached (what is shared counts as often as it is met; a slice's spare places count too). A statement '..UptoSaid' is the law's where the arguments, and the package variables that the reading takes, are together of bulk at most 1048576: NARROWER than '..Said'. Prove '..Said' where nothing that the law and all that it calls make is longer than what came in: it says more and counts as full. Else prove '..UptoSaid'. A law counts once. -/
mutual
def uptoBulk {H : Type} : DataW H → Nat
  | .lit (.string bytes) => bytes.length + 1
  | .lit _ => 1
  | .nil => 1
  | .ptr d => uptoBulk d + 1
  | .slice elems spare => uptoBulkAll elems + uptoBulkAll spare + 1
  | .agg parts => uptoBulkAll parts + 1
  | .iface _ d => uptoBulk d + 1
  | .map entries => uptoBulkEntries entries + 1
  | .held _ => 1
def uptoBulkAll {H : Type} : List (DataW H) → Nat
  | [] => 0
  | d :: r => uptoBulk d + uptoBulkAll r
def uptoBulkEntries {H : Type} : List (Lit × DataW H) → Nat
  | [] => 0
  | x :: r => uptoBulkEntry x + uptoBulkEntries r
def uptoBulkEntry {H : Type} : Lit × DataW H → Nat
  | (.string bytes, d) => bytes.length + uptoBulk d + 1
  | (_, d) => uptoBulk d + 1
 end
def uptoSmall : (H : Type) → List (DataW H) → Bool := fun _ ds => decide (uptoBulkAll ds ≤ 1048576)
def OpenSpec.upto (s : _root_.Go.ChangeSpec) : _root_.Go.OpenSpec := { _root_.Go.OpenSpec.ofChange s with cond := some uptoSmall }

/-- 'laws.FnExactWayFor', WHERE WHAT IT READS IS OF BULK AT MOST 1048576: true; the input reads as it did. -/
def fnExactWayForUptoRow : OpenClaim := { program := "ytakmheeaofhflaa", sum := "8654cc1200a0a954894552efa24d03b801b016f6817e970207cef4640c2a551d", func := "loop.example/g00850/laws.FnExactWayFor", spec := "fnExactWayFor", inPlace := ["internal/bytealg.IndexByteString", "slices.overlaps[string]", "slices.overlaps[int]"], unfollowed := true, recurses := true, apart := false, narrowed := true }
def FnExactWayForUptoSaid : Prop := fnExactWayForUptoRow.holds Try.pinned (OpenSpec.upto fnExactWayForSpec)

/-- 'laws.FnExactFeedCells', WHERE WHAT IT READS IS OF BULK AT MOST 1048576: true; the input reads as it did. -/
def fnExactFeedCellsUptoRow : OpenClaim := { program := "ytakmheeaofhflaa", sum := "8654cc1200a0a954894552efa24d03b801b016f6817e970207cef4640c2a551d", func := "loop.example/g00850/laws.FnExactFeedCells", spec := "fnExactFeedCells", inPlace := ["internal/bytealg.IndexByteString", "slices.overlaps[loop.example/g00850/impl.Cell]"], unfollowed := true, recurses := true, apart := false, narrowed := true }
def FnExactFeedCellsUptoSaid : Prop := fnExactFeedCellsUptoRow.holds Try.pinned (OpenSpec.upto fnExactFeedCellsSpec)

/-- 'laws.FnExactStepMove', WHERE WHAT IT READS IS OF BULK AT MOST 1048576: true; the input reads as it did. -/
def fnExactStepMoveUptoRow : OpenClaim := { program := "ytakmheeaofhflaa", sum := "8654cc1200a0a954894552efa24d03b801b016f6817e970207cef4640c2a551d", func := "loop.example/g00850/laws.FnExactStepMove", spec := "fnExactStepMove", inPlace := ["internal/bytealg.IndexByteString", "slices.overlaps[loop.example/g00850/impl.Write]"], unfollowed := true, recurses := true, apart := false, narrowed := true }
def FnExactStepMoveUptoSaid : Prop := fnExactStepMoveUptoRow.holds Try.pinned (OpenSpec.upto fnExactStepMoveSpec)

/-- 'laws.FnExactTellGroup', WHERE WHAT IT READS IS OF BULK AT MOST 1048576: true; the input reads as it did. -/
def fnExactTellGroupUptoRow : OpenClaim := { program := "ytakmheeaofhflaa", sum := "8654cc1200a0a954894552efa24d03b801b016f6817e970207cef4640c2a551d", func := "loop.example/g00850/laws.FnExactTellGroup", spec := "fnExactTellGroup", inPlace := ["internal/bytealg.IndexByteString", "slices.overlaps[string]", "slices.overlaps[int]"], unfollowed := true, recurses := true, apart := false, narrowed := true }
def FnExactTellGroupUptoSaid : Prop := fnExactTellGroupUptoRow.holds Try.pinned (OpenSpec.upto fnExactTellGroupSpec)

/-- 'laws.FnExactAddMap', WHERE WHAT IT READS IS OF BULK AT MOST 1048576: true; the input reads as it did. -/
def fnExactAddMapUptoRow : OpenClaim := { program := "ytakmheeaofhflaa", sum := "8654cc1200a0a954894552efa24d03b801b016f6817e970207cef4640c2a551d", func := "loop.example/g00850/laws.FnExactAddMap", spec := "fnExactAddMap", inPlace := ["internal/bytealg.IndexByteString", "slices.overlaps[string]", "slices.overlaps[int]"], unfollowed := true, recurses := true, apart := false, narrowed := true }
def FnExactAddMapUptoSaid : Prop := fnExactAddMapUptoRow.holds Try.pinned (OpenSpec.upto fnExactAddMapSpec)

/-- 'laws.FnExactPlayMove', WHERE WHAT IT READS IS OF BULK AT MOST 1048576: true; the input reads as it did. -/
def fnExactPlayMoveUptoRow : OpenClaim := { program := "ytakmheeaofhflaa", sum := "8654cc1200a0a954894552efa24d03b801b016f6817e970207cef4640c2a551d", func := "loop.example/g00850/laws.FnExactPlayMove", spec := "fnExactPlayMove", inPlace := ["internal/bytealg.IndexByteString", "slices.overlaps[loop.example/g00850/impl.Write]"], unfollowed := true, recurses := true, apart := false, narrowed := true }
def FnExactPlayMoveUptoSaid : Prop := fnExactPlayMoveUptoRow.holds Try.pinned (OpenSpec.upto fnExactPlayMoveSpec)

/-- 'laws.FnPlaces', WHERE WHAT IT READS IS OF BULK AT MOST 1048576: true; the input reads as it did. -/
def fnPlacesUptoRow : OpenClaim := { program := "ytakmheeaofhflaa", sum := "8654cc1200a0a954894552efa24d03b801b016f6817e970207cef4640c2a551d", func := "loop.example/g00850/laws.FnPlaces", spec := "fnPlaces", inPlace := ["internal/bytealg.IndexByteString", "slices.overlaps[string]", "slices.overlaps[int]"], unfollowed := true, recurses := true, apart := false, narrowed := true }
def FnPlacesUptoSaid : Prop := fnPlacesUptoRow.holds Try.pinned (OpenSpec.upto fnPlacesSpec)

/-- 'laws.FnWays', WHERE WHAT IT READS IS OF BULK AT MOST 1048576: true; the input reads as it did. -/
def fnWaysUptoRow : OpenClaim := { program := "ytakmheeaofhflaa", sum := "8654cc1200a0a954894552efa24d03b801b016f6817e970207cef4640c2a551d", func := "loop.example/g00850/laws.FnWays", spec := "fnWays", inPlace := ["internal/bytealg.IndexByteString", "slices.overlaps[string]", "slices.overlaps[int]"], unfollowed := true, recurses := true, apart := false, narrowed := true }
def FnWaysUptoSaid : Prop := fnWaysUptoRow.holds Try.pinned (OpenSpec.upto fnWaysSpec)

/-- 'laws.FnHands', WHERE WHAT IT READS IS OF BULK AT MOST 1048576: true; the input reads as it did. -/
def fnHandsUptoRow : OpenClaim := { program := "ytakmheeaofhflaa", sum := "8654cc1200a0a954894552efa24d03b801b016f6817e970207cef4640c2a551d", func := "loop.example/g00850/laws.FnHands", spec := "fnHands", inPlace := ["internal/bytealg.IndexByteString", "slices.overlaps[loop.example/g00850/impl.Write]"], unfollowed := true, recurses := true, apart := false, narrowed := true }
def FnHandsUptoSaid : Prop := fnHandsUptoRow.holds Try.pinned (OpenSpec.upto fnHandsSpec)

/-- 'laws.FnMoveReads', WHERE WHAT IT READS IS OF BULK AT MOST 1048576: true; the input reads as it did. -/
def fnMoveReadsUptoRow : OpenClaim := { program := "ytakmheeaofhflaa", sum := "8654cc1200a0a954894552efa24d03b801b016f6817e970207cef4640c2a551d", func := "loop.example/g00850/laws.FnMoveReads", spec := "fnMoveReads", inPlace := ["internal/bytealg.IndexByteString", "slices.overlaps[loop.example/g00850/impl.Write]"], unfollowed := true, recurses := true, apart := false, narrowed := true }
def FnMoveReadsUptoSaid : Prop := fnMoveReadsUptoRow.holds Try.pinned (OpenSpec.upto fnMoveReadsSpec)

/-- 'laws.FnMoves', WHERE WHAT IT READS IS OF BULK AT MOST 1048576: true; the input reads as it did. -/
def fnMovesUptoRow : OpenClaim := { program := "ytakmheeaofhflaa", sum := "8654cc1200a0a954894552efa24d03b801b016f6817e970207cef4640c2a551d", func := "loop.example/g00850/laws.FnMoves", spec := "fnMoves", inPlace := ["internal/bytealg.IndexByteString", "slices.overlaps[loop.example/g00850/impl.Write]"], unfollowed := true, recurses := true, apart := false, narrowed := true }
def FnMovesUptoSaid : Prop := fnMovesUptoRow.holds Try.pinned (OpenSpec.upto fnMovesSpec)

/-- 'laws.FnAtlases', WHERE WHAT IT READS IS OF BULK AT MOST 1048576: true; the input reads as it did. -/
def fnAtlasesUptoRow : OpenClaim := { program := "ytakmheeaofhflaa", sum := "8654cc1200a0a954894552efa24d03b801b016f6817e970207cef4640c2a551d", func := "loop.example/g00850/laws.FnAtlases", spec := "fnAtlases", inPlace := ["internal/bytealg.IndexByteString", "slices.overlaps[string]", "slices.overlaps[int]"], unfollowed := true, recurses := true, apart := false, narrowed := true }
def FnAtlasesUptoSaid : Prop := fnAtlasesUptoRow.holds Try.pinned (OpenSpec.upto fnAtlasesSpec)

end Rows
end Go.Proofs.Ytakmheeaofhflaa
