/-
  No cell of these rows narrows 'for every input' (looked for: loops, veiled, ifaces, maps, wideKeys, modest, calm, conditions, laid).
  DERIVED. THE GIVEN ROWS OF THIS SEAT. 6 by the template 'for every input the law returns true; each argument reads behind the call as it read before'; 0 by the template 'total and deterministic' (their statements: YtdbmaekdejhobaaTotals.lean).
  GIVEN WITH THE SEED: the statements are not yours to turn. If you find one false, say at which input.
  Laid BY PROGRAM, IN A SANDBOX (cutbox-rows.mjs): the forced cells as the released guide's own fill.sh prints them over the translation da35a3a1e11e5ac5… (all of the seat's roots in one cut). By AI agents, Wed Nov 11 2026. No macro, syntax, notation, axiom, sorry.
-/
import Derived.Test.YtdbmaekdejhobaaChecked
import GoSem.Claim
import GoSem.ClaimJoined
import GoSem.ClaimMapViews
import Derived.JoinedTies
import Derived.KernelRfl
namespace Go.Proofs.Ytdbmaekdejhobaa
/- THE CELL 'sum', in the pinned program and in every row, IS THE sha256 OF THE DUMP (.gsa) THAT YtdbmaekdejhobaaProg.lean LOADS. Nothing in Lean hashes anything: it is a label: what it is worth is what the hold of that sum in a sandbox is worth. -/
noncomputable def Try.pinned : Pinned := { name := "ytdbmaekdejhobaa", sum := "da35a3a1e11e5ac51bc841096512c85ab734b15f95c29ad2174d7d0332cc1d8e", checked := Try.checked }
namespace Rows
def none {H : Type} : Left H := { results := [], args := [] }

/-- 'laws.FnHands': WHATEVER THE INPUT: true; the input reads as it did. -/
def fnHandsSpec : ChangeSpec := { name := "fnHands", fn := fun _ => fun
  | [d1, d2] => { results := [.lit (.bool true)], args := [d1, d2] }
  | _ => none }
def fnHandsRow : OpenClaim := { program := "ytdbmaekdejhobaa", sum := "da35a3a1e11e5ac51bc841096512c85ab734b15f95c29ad2174d7d0332cc1d8e", func := "loop.example/g00850/laws.FnHands", spec := "fnHands", inPlace := ["internal/bytealg.IndexByteString", "slices.overlaps[loop.example/g00850/impl.Write]"], unfollowed := true, recurses := true, apart := false }
def FnHandsSaid : Prop := fnHandsRow.holds Try.pinned (OpenSpec.ofChange fnHandsSpec)

/-- ITS FALSE NEIGHBOUR: 'it returns false'. Refute it at one input. -/
def fnHandsWrong : ChangeSpec := { name := "fnHands", fn := fun _ => fun
  | [d1, d2] => { results := [.lit (.bool false)], args := [d1, d2] }
  | _ => none }
def FnHandsWrongFalsely : Prop := fnHandsRow.holds Try.pinned (OpenSpec.ofChange fnHandsWrong)

/-- 'laws.FnMoveReads': WHATEVER THE INPUT: true; the input reads as it did. -/
def fnMoveReadsSpec : ChangeSpec := { name := "fnMoveReads", fn := fun _ => fun
  | [d1, d2] => { results := [.lit (.bool true)], args := [d1, d2] }
  | _ => none }
def fnMoveReadsRow : OpenClaim := { program := "ytdbmaekdejhobaa", sum := "da35a3a1e11e5ac51bc841096512c85ab734b15f95c29ad2174d7d0332cc1d8e", func := "loop.example/g00850/laws.FnMoveReads", spec := "fnMoveReads", inPlace := ["internal/bytealg.IndexByteString", "slices.overlaps[loop.example/g00850/impl.Write]"], unfollowed := true, recurses := true, apart := false }
def FnMoveReadsSaid : Prop := fnMoveReadsRow.holds Try.pinned (OpenSpec.ofChange fnMoveReadsSpec)

/-- ITS FALSE NEIGHBOUR: 'it returns false'. Refute it at one input. -/
def fnMoveReadsWrong : ChangeSpec := { name := "fnMoveReads", fn := fun _ => fun
  | [d1, d2] => { results := [.lit (.bool false)], args := [d1, d2] }
  | _ => none }
def FnMoveReadsWrongFalsely : Prop := fnMoveReadsRow.holds Try.pinned (OpenSpec.ofChange fnMoveReadsWrong)

/-- 'laws.FnPlaces': WHATEVER THE INPUT: true; the input reads as it did. -/
def fnPlacesSpec : ChangeSpec := { name := "fnPlaces", fn := fun _ => fun
  | [d1, d2] => { results := [.lit (.bool true)], args := [d1, d2] }
  | _ => none }
def fnPlacesRow : OpenClaim := { program := "ytdbmaekdejhobaa", sum := "da35a3a1e11e5ac51bc841096512c85ab734b15f95c29ad2174d7d0332cc1d8e", func := "loop.example/g00850/laws.FnPlaces", spec := "fnPlaces", inPlace := ["internal/bytealg.IndexByteString", "slices.overlaps[string]", "slices.overlaps[int]"], unfollowed := true, recurses := true, apart := false }
def FnPlacesSaid : Prop := fnPlacesRow.holds Try.pinned (OpenSpec.ofChange fnPlacesSpec)

/-- ITS FALSE NEIGHBOUR: 'it returns false'. Refute it at one input. -/
def fnPlacesWrong : ChangeSpec := { name := "fnPlaces", fn := fun _ => fun
  | [d1, d2] => { results := [.lit (.bool false)], args := [d1, d2] }
  | _ => none }
def FnPlacesWrongFalsely : Prop := fnPlacesRow.holds Try.pinned (OpenSpec.ofChange fnPlacesWrong)

/-- 'laws.FnWays': WHATEVER THE INPUT: true; the input reads as it did. -/
def fnWaysSpec : ChangeSpec := { name := "fnWays", fn := fun _ => fun
  | [d1, d2] => { results := [.lit (.bool true)], args := [d1, d2] }
  | _ => none }
def fnWaysRow : OpenClaim := { program := "ytdbmaekdejhobaa", sum := "da35a3a1e11e5ac51bc841096512c85ab734b15f95c29ad2174d7d0332cc1d8e", func := "loop.example/g00850/laws.FnWays", spec := "fnWays", inPlace := ["internal/bytealg.IndexByteString", "slices.overlaps[string]", "slices.overlaps[int]"], unfollowed := true, recurses := true, apart := false }
def FnWaysSaid : Prop := fnWaysRow.holds Try.pinned (OpenSpec.ofChange fnWaysSpec)

/-- ITS FALSE NEIGHBOUR: 'it returns false'. Refute it at one input. -/
def fnWaysWrong : ChangeSpec := { name := "fnWays", fn := fun _ => fun
  | [d1, d2] => { results := [.lit (.bool false)], args := [d1, d2] }
  | _ => none }
def FnWaysWrongFalsely : Prop := fnWaysRow.holds Try.pinned (OpenSpec.ofChange fnWaysWrong)

/-- 'laws.FnAtlases': WHATEVER THE INPUT: true; the input reads as it did. -/
def fnAtlasesSpec : ChangeSpec := { name := "fnAtlases", fn := fun _ => fun
  | [d1, d2] => { results := [.lit (.bool true)], args := [d1, d2] }
  | _ => none }
def fnAtlasesRow : OpenClaim := { program := "ytdbmaekdejhobaa", sum := "da35a3a1e11e5ac51bc841096512c85ab734b15f95c29ad2174d7d0332cc1d8e", func := "loop.example/g00850/laws.FnAtlases", spec := "fnAtlases", inPlace := ["internal/bytealg.IndexByteString", "slices.overlaps[string]", "slices.overlaps[int]"], unfollowed := true, recurses := true, apart := false }
def FnAtlasesSaid : Prop := fnAtlasesRow.holds Try.pinned (OpenSpec.ofChange fnAtlasesSpec)

/-- ITS FALSE NEIGHBOUR: 'it returns false'. Refute it at one input. -/
def fnAtlasesWrong : ChangeSpec := { name := "fnAtlases", fn := fun _ => fun
  | [d1, d2] => { results := [.lit (.bool false)], args := [d1, d2] }
  | _ => none }
def FnAtlasesWrongFalsely : Prop := fnAtlasesRow.holds Try.pinned (OpenSpec.ofChange fnAtlasesWrong)

/-- 'laws.FnExactFeedCells': WHATEVER THE INPUT: true; the input reads as it did. -/
def fnExactFeedCellsSpec : ChangeSpec := { name := "fnExactFeedCells", fn := fun _ => fun
  | [d1, d2, d3] => { results := [.lit (.bool true)], args := [d1, d2, d3] }
  | _ => none }
def fnExactFeedCellsRow : OpenClaim := { program := "ytdbmaekdejhobaa", sum := "da35a3a1e11e5ac51bc841096512c85ab734b15f95c29ad2174d7d0332cc1d8e", func := "loop.example/g00850/laws.FnExactFeedCells", spec := "fnExactFeedCells", inPlace := ["internal/bytealg.IndexByteString", "slices.overlaps[loop.example/g00850/impl.Cell]"], unfollowed := true, recurses := true, apart := false }
def FnExactFeedCellsSaid : Prop := fnExactFeedCellsRow.holds Try.pinned (OpenSpec.ofChange fnExactFeedCellsSpec)

/-- ITS FALSE NEIGHBOUR: 'it returns false'. Refute it at one input. -/
def fnExactFeedCellsWrong : ChangeSpec := { name := "fnExactFeedCells", fn := fun _ => fun
  | [d1, d2, d3] => { results := [.lit (.bool false)], args := [d1, d2, d3] }
  | _ => none }
def FnExactFeedCellsWrongFalsely : Prop := fnExactFeedCellsRow.holds Try.pinned (OpenSpec.ofChange fnExactFeedCellsWrong)

/- THE SECOND FORM. 'bulk': how many values and letters a reading holds, each counted each time it is reached (what is shared counts as often as it is met; a slice's spare places count too). A statement '..UptoSaid' is the law's where the arguments, and the package variables that the reading takes, are together of bulk at most 1048576: NARROWER than '..Said'. Prove '..Said' where nothing that the law and all that it calls make is longer than what came in: it says more and counts as full. Else prove '..UptoSaid'. A law counts once. -/
mutual
def uptoBulk {H : Type} : DataW H → Nat
  | .lit (.string bytes) => bytes.length + 1
  | .lit _ => 1
  | .nil => 1
  | .ptr d => uptoBulk d + 1
  | .slice elems spare => uptoBulkAll elems + uptoBulkAll spare + 1
  | .agg parts => uptoBulkAll parts + 1
  | .iface _ d => uptoBulk d + 1
  | .map entries => uptoBulkEntries entries + 1
  | .held _ => 1
def uptoBulkAll {H : Type} : List (DataW H) → Nat
  | [] => 0
  | d :: r => uptoBulk d + uptoBulkAll r
def uptoBulkEntries {H : Type} : List (Lit × DataW H) → Nat
  | [] => 0
  | x :: r => uptoBulkEntry x + uptoBulkEntries r
def uptoBulkEntry {H : Type} : Lit × DataW H → Nat
  | (.string bytes, d) => bytes.length + uptoBulk d + 1
  | (_, d) => uptoBulk d + 1
 end
def uptoSmall : (H : Type) → List (DataW H) → Bool := fun _ ds => decide (uptoBulkAll ds ≤ 1048576)
def OpenSpec.upto (s : _root_.Go.ChangeSpec) : _root_.Go.OpenSpec := { _root_.Go.OpenSpec.ofChange s with cond := some uptoSmall }

/-- 'laws.FnHands', WHERE WHAT IT READS IS OF BULK AT MOST 1048576: true; the input reads as it did. -/
def fnHandsUptoRow : OpenClaim := { program := "ytdbmaekdejhobaa", sum := "da35a3a1e11e5ac51bc841096512c85ab734b15f95c29ad2174d7d0332cc1d8e", func := "loop.example/g00850/laws.FnHands", spec := "fnHands", inPlace := ["internal/bytealg.IndexByteString", "slices.overlaps[loop.example/g00850/impl.Write]"], unfollowed := true, recurses := true, apart := false, narrowed := true }
def FnHandsUptoSaid : Prop := fnHandsUptoRow.holds Try.pinned (OpenSpec.upto fnHandsSpec)

/-- 'laws.FnMoveReads', WHERE WHAT IT READS IS OF BULK AT MOST 1048576: true; the input reads as it did. -/
def fnMoveReadsUptoRow : OpenClaim := { program := "ytdbmaekdejhobaa", sum := "da35a3a1e11e5ac51bc841096512c85ab734b15f95c29ad2174d7d0332cc1d8e", func := "loop.example/g00850/laws.FnMoveReads", spec := "fnMoveReads", inPlace := ["internal/bytealg.IndexByteString", "slices.overlaps[loop.example/g00850/impl.Write]"], unfollowed := true, recurses := true, apart := false, narrowed := true }
def FnMoveReadsUptoSaid : Prop := fnMoveReadsUptoRow.holds Try.pinned (OpenSpec.upto fnMoveReadsSpec)

/-- 'laws.FnPlaces', WHERE WHAT IT READS IS OF BULK AT MOST 1048576: true; the input reads as it did. -/
def fnPlacesUptoRow : OpenClaim := { program := "ytdbmaekdejhobaa", sum := "da35a3a1e11e5ac51bc841096512c85ab734b15f95c29ad2174d7d0332cc1d8e", func := "loop.example/g00850/laws.FnPlaces", spec := "fnPlaces", inPlace := ["internal/bytealg.IndexByteString", "slices.overlaps[string]", "slices.overlaps[int]"], unfollowed := true, recurses := true, apart := false, narrowed := true }
def FnPlacesUptoSaid : Prop := fnPlacesUptoRow.holds Try.pinned (OpenSpec.upto fnPlacesSpec)

/-- 'laws.FnWays', WHERE WHAT IT READS IS OF BULK AT MOST 1048576: true; the input reads as it did. -/
def fnWaysUptoRow : OpenClaim := { program := "ytdbmaekdejhobaa", sum := "da35a3a1e11e5ac51bc841096512c85ab734b15f95c29ad2174d7d0332cc1d8e", func := "loop.example/g00850/laws.FnWays", spec := "fnWays", inPlace := ["internal/bytealg.IndexByteString", "slices.overlaps[string]", "slices.overlaps[int]"], unfollowed := true, recurses := true, apart := false, narrowed := true }
def FnWaysUptoSaid : Prop := fnWaysUptoRow.holds Try.pinned (OpenSpec.upto fnWaysSpec)

/-- 'laws.FnAtlases', WHERE WHAT IT READS IS OF BULK AT MOST 1048576: true; the input reads as it did. -/
def fnAtlasesUptoRow : OpenClaim := { program := "ytdbmaekdejhobaa", sum := "da35a3a1e11e5ac51bc841096512c85ab734b15f95c29ad2174d7d0332cc1d8e", func := "loop.example/g00850/laws.FnAtlases", spec := "fnAtlases", inPlace := ["internal/bytealg.IndexByteString", "slices.overlaps[string]", "slices.overlaps[int]"], unfollowed := true, recurses := true, apart := false, narrowed := true }
def FnAtlasesUptoSaid : Prop := fnAtlasesUptoRow.holds Try.pinned (OpenSpec.upto fnAtlasesSpec)

/-- 'laws.FnExactFeedCells', WHERE WHAT IT READS IS OF BULK AT MOST 1048576: true; the input reads as it did. -/
def fnExactFeedCellsUptoRow : OpenClaim := { program := "ytdbmaekdejhobaa", sum := "da35a3a1e11e5ac51bc841096512c85ab734b15f95c29ad2174d7d0332cc1d8e", func := "loop.example/g00850/laws.FnExactFeedCells", spec := "fnExactFeedCells", inPlace := ["internal/bytealg.IndexByteString", "slices.overlaps[loop.example/g00850/impl.Cell]"], unfollowed := true, recurses := true, apart := false, narrowed := true }
def FnExactFeedCellsUptoSaid : Prop := fnExactFeedCellsUptoRow.holds Try.pinned (OpenSpec.upto fnExactFeedCellsSpec)

end Rows
end Go.Proofs.Ytdbmaekdejhobaa
