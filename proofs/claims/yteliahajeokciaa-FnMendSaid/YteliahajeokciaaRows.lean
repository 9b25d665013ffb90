/-
  No cell of these rows narrows 'for every input' (looked for: loops, veiled, ifaces, maps, wideKeys, modest, calm, conditions, laid).
  DERIVED. THE GIVEN ROWS OF THIS SEAT. 9 by the template 'for every input the law returns true; each argument reads behind the call as it read before'; 0 by the template 'total and deterministic' (their statements: YteliahajeokciaaTotals.lean).
  GIVEN WITH THE SEED: the statements are not yours to turn. If you find one false, say at which input.
  Laid BY PROGRAM, IN A SANDBOX (cutbox-rows.mjs): the forced cells as the released guide's own fill.sh prints them over the translation e9a7c4ec56ba1d1d… (all of the seat's roots in one cut). By AI agents, Wed Nov 11 2026. No macro, syntax, notation, axiom, sorry.
-/
import Derived.Test.YteliahajeokciaaChecked
import GoSem.Claim
import GoSem.ClaimJoined
import GoSem.ClaimMapViews
import Derived.JoinedTies
import Derived.KernelRfl
namespace Go.Proofs.Yteliahajeokciaa
/- THE CELL 'sum', in the pinned program and in every row, IS THE sha256 OF THE DUMP (.gsa) THAT YteliahajeokciaaProg.lean LOADS. Nothing in Lean hashes anything: it is a label: what it is worth is what the hold of that sum in a sandbox is worth. -/
noncomputable def Try.pinned : Pinned := { name := "yteliahajeokciaa", sum := "e9a7c4ec56ba1d1dd348d842de208826ba79bb08d91524ea7b5400fdc7f1b09b", checked := Try.checked }
namespace Rows
def none {H : Type} : Left H := { results := [], args := [] }

/-- 'laws.FnBytes': WHATEVER THE INPUT: true; the input reads as it did. -/
def fnBytesSpec : ChangeSpec := { name := "fnBytes", fn := fun _ => fun
  | [d1, d2] => { results := [.lit (.bool true)], args := [d1, d2] }
  | _ => none }
def fnBytesRow : OpenClaim := { program := "yteliahajeokciaa", sum := "e9a7c4ec56ba1d1dd348d842de208826ba79bb08d91524ea7b5400fdc7f1b09b", func := "loop.example/g00850/laws.FnBytes", spec := "fnBytes", unfollowed := true, recurses := true, apart := false }
def FnBytesSaid : Prop := fnBytesRow.holds Try.pinned (OpenSpec.ofChange fnBytesSpec)

/-- ITS FALSE NEIGHBOUR: 'it returns false'. Refute it at one input. -/
def fnBytesWrong : ChangeSpec := { name := "fnBytes", fn := fun _ => fun
  | [d1, d2] => { results := [.lit (.bool false)], args := [d1, d2] }
  | _ => none }
def FnBytesWrongFalsely : Prop := fnBytesRow.holds Try.pinned (OpenSpec.ofChange fnBytesWrong)

/-- 'laws.FnCut': WHATEVER THE INPUT: true; the input reads as it did. -/
def fnCutSpec : ChangeSpec := { name := "fnCut", fn := fun _ => fun
  | [d] => { results := [.lit (.bool true)], args := [d] }
  | _ => none }
def fnCutRow : OpenClaim := { program := "yteliahajeokciaa", sum := "e9a7c4ec56ba1d1dd348d842de208826ba79bb08d91524ea7b5400fdc7f1b09b", func := "loop.example/g00850/laws.FnCut", spec := "fnCut", apart := false }
def FnCutSaid : Prop := fnCutRow.holds Try.pinned (OpenSpec.ofChange fnCutSpec)

/-- ITS FALSE NEIGHBOUR: 'it returns false'. Refute it at one input. -/
def fnCutWrong : ChangeSpec := { name := "fnCut", fn := fun _ => fun
  | [d] => { results := [.lit (.bool false)], args := [d] }
  | _ => none }
def FnCutWrongFalsely : Prop := fnCutRow.holds Try.pinned (OpenSpec.ofChange fnCutWrong)

/-- 'laws.FnMend': WHATEVER THE INPUT: true; the input reads as it did. -/
def fnMendSpec : ChangeSpec := { name := "fnMend", fn := fun _ => fun
  | [d] => { results := [.lit (.bool true)], args := [d] }
  | _ => none }
def fnMendRow : OpenClaim := { program := "yteliahajeokciaa", sum := "e9a7c4ec56ba1d1dd348d842de208826ba79bb08d91524ea7b5400fdc7f1b09b", func := "loop.example/g00850/laws.FnMend", spec := "fnMend", apart := false }
def FnMendSaid : Prop := fnMendRow.holds Try.pinned (OpenSpec.ofChange fnMendSpec)

/-- ITS FALSE NEIGHBOUR: 'it returns false'. Refute it at one input. -/
def fnMendWrong : ChangeSpec := { name := "fnMend", fn := fun _ => fun
  | [d] => { results := [.lit (.bool false)], args := [d] }
  | _ => none }
def FnMendWrongFalsely : Prop := fnMendRow.holds Try.pinned (OpenSpec.ofChange fnMendWrong)

/-- 'laws.FnTimes': WHATEVER THE INPUT: true; the input reads as it did. -/
def fnTimesSpec : ChangeSpec := { name := "fnTimes", fn := fun _ => fun
  | [d1, d2] => { results := [.lit (.bool true)], args := [d1, d2] }
  | _ => none }
def fnTimesRow : OpenClaim := { program := "yteliahajeokciaa", sum := "e9a7c4ec56ba1d1dd348d842de208826ba79bb08d91524ea7b5400fdc7f1b09b", func := "loop.example/g00850/laws.FnTimes", spec := "fnTimes", inPlace := ["internal/bytealg.IndexByteString"], unfollowed := true, recurses := true, apart := false }
def FnTimesSaid : Prop := fnTimesRow.holds Try.pinned (OpenSpec.ofChange fnTimesSpec)

/-- ITS FALSE NEIGHBOUR: 'it returns false'. Refute it at one input. -/
def fnTimesWrong : ChangeSpec := { name := "fnTimes", fn := fun _ => fun
  | [d1, d2] => { results := [.lit (.bool false)], args := [d1, d2] }
  | _ => none }
def FnTimesWrongFalsely : Prop := fnTimesRow.holds Try.pinned (OpenSpec.ofChange fnTimesWrong)

/-- 'laws.FnCells': WHATEVER THE INPUT: true; the input reads as it did. -/
def fnCellsSpec : ChangeSpec := { name := "fnCells", fn := fun _ => fun
  | [d1, d2] => { results := [.lit (.bool true)], args := [d1, d2] }
  | _ => none }
def fnCellsRow : OpenClaim := { program := "yteliahajeokciaa", sum := "e9a7c4ec56ba1d1dd348d842de208826ba79bb08d91524ea7b5400fdc7f1b09b", func := "loop.example/g00850/laws.FnCells", spec := "fnCells", inPlace := ["internal/bytealg.IndexByteString", "slices.overlaps[loop.example/g00850/impl.Cell]"], unfollowed := true, recurses := true, apart := false }
def FnCellsSaid : Prop := fnCellsRow.holds Try.pinned (OpenSpec.ofChange fnCellsSpec)

/-- ITS FALSE NEIGHBOUR: 'it returns false'. Refute it at one input. -/
def fnCellsWrong : ChangeSpec := { name := "fnCells", fn := fun _ => fun
  | [d1, d2] => { results := [.lit (.bool false)], args := [d1, d2] }
  | _ => none }
def FnCellsWrongFalsely : Prop := fnCellsRow.holds Try.pinned (OpenSpec.ofChange fnCellsWrong)

/-- 'laws.FnExactFeedCells': WHATEVER THE INPUT: true; the input reads as it did. -/
def fnExactFeedCellsSpec : ChangeSpec := { name := "fnExactFeedCells", fn := fun _ => fun
  | [d1, d2, d3] => { results := [.lit (.bool true)], args := [d1, d2, d3] }
  | _ => none }
def fnExactFeedCellsRow : OpenClaim := { program := "yteliahajeokciaa", sum := "e9a7c4ec56ba1d1dd348d842de208826ba79bb08d91524ea7b5400fdc7f1b09b", func := "loop.example/g00850/laws.FnExactFeedCells", spec := "fnExactFeedCells", inPlace := ["internal/bytealg.IndexByteString", "slices.overlaps[loop.example/g00850/impl.Cell]"], unfollowed := true, recurses := true, apart := false }
def FnExactFeedCellsSaid : Prop := fnExactFeedCellsRow.holds Try.pinned (OpenSpec.ofChange fnExactFeedCellsSpec)

/-- ITS FALSE NEIGHBOUR: 'it returns false'. Refute it at one input. -/
def fnExactFeedCellsWrong : ChangeSpec := { name := "fnExactFeedCells", fn := fun _ => fun
  | [d1, d2, d3] => { results := [.lit (.bool false)], args := [d1, d2, d3] }
  | _ => none }
def FnExactFeedCellsWrongFalsely : Prop := fnExactFeedCellsRow.holds Try.pinned (OpenSpec.ofChange fnExactFeedCellsWrong)

/-- 'laws.FnLocks': WHATEVER THE INPUT: true; the input reads as it did. -/
def fnLocksSpec : ChangeSpec := { name := "fnLocks", fn := fun _ => fun
  | [d1, d2] => { results := [.lit (.bool true)], args := [d1, d2] }
  | _ => none }
def fnLocksRow : OpenClaim := { program := "yteliahajeokciaa", sum := "e9a7c4ec56ba1d1dd348d842de208826ba79bb08d91524ea7b5400fdc7f1b09b", func := "loop.example/g00850/laws.FnLocks", spec := "fnLocks", inPlace := ["internal/bytealg.IndexByteString"], unfollowed := true, recurses := true, apart := false }
def FnLocksSaid : Prop := fnLocksRow.holds Try.pinned (OpenSpec.ofChange fnLocksSpec)

/-- ITS FALSE NEIGHBOUR: 'it returns false'. Refute it at one input. -/
def fnLocksWrong : ChangeSpec := { name := "fnLocks", fn := fun _ => fun
  | [d1, d2] => { results := [.lit (.bool false)], args := [d1, d2] }
  | _ => none }
def FnLocksWrongFalsely : Prop := fnLocksRow.holds Try.pinned (OpenSpec.ofChange fnLocksWrong)

/-- 'laws.FnMerge': WHATEVER THE INPUT: true; the input reads as it did. -/
def fnMergeSpec : ChangeSpec := { name := "fnMerge", fn := fun _ => fun
  | [d] => { results := [.lit (.bool true)], args := [d] }
  | _ => none }
def fnMergeRow : OpenClaim := { program := "yteliahajeokciaa", sum := "e9a7c4ec56ba1d1dd348d842de208826ba79bb08d91524ea7b5400fdc7f1b09b", func := "loop.example/g00850/laws.FnMerge", spec := "fnMerge", inPlace := ["internal/bytealg.IndexByteString"], unfollowed := true, recurses := true, apart := false }
def FnMergeSaid : Prop := fnMergeRow.holds Try.pinned (OpenSpec.ofChange fnMergeSpec)

/-- ITS FALSE NEIGHBOUR: 'it returns false'. Refute it at one input. -/
def fnMergeWrong : ChangeSpec := { name := "fnMerge", fn := fun _ => fun
  | [d] => { results := [.lit (.bool false)], args := [d] }
  | _ => none }
def FnMergeWrongFalsely : Prop := fnMergeRow.holds Try.pinned (OpenSpec.ofChange fnMergeWrong)

/-- 'laws.FnExactMergeFeed': WHATEVER THE INPUT: true; the input reads as it did. -/
def fnExactMergeFeedSpec : ChangeSpec := { name := "fnExactMergeFeed", fn := fun _ => fun
  | [d1, d2] => { results := [.lit (.bool true)], args := [d1, d2] }
  | _ => none }
def fnExactMergeFeedRow : OpenClaim := { program := "yteliahajeokciaa", sum := "e9a7c4ec56ba1d1dd348d842de208826ba79bb08d91524ea7b5400fdc7f1b09b", func := "loop.example/g00850/laws.FnExactMergeFeed", spec := "fnExactMergeFeed", inPlace := ["internal/bytealg.IndexByteString"], unfollowed := true, recurses := true, apart := false }
def FnExactMergeFeedSaid : Prop := fnExactMergeFeedRow.holds Try.pinned (OpenSpec.ofChange fnExactMergeFeedSpec)

/-- ITS FALSE NEIGHBOUR: 'it returns false'. Refute it at one input. -/
def fnExactMergeFeedWrong : ChangeSpec := { name := "fnExactMergeFeed", fn := fun _ => fun
  | [d1, d2] => { results := [.lit (.bool false)], args := [d1, d2] }
  | _ => none }
def FnExactMergeFeedWrongFalsely : Prop := fnExactMergeFeedRow.holds Try.pinned (OpenSpec.ofChange fnExactMergeFeedWrong)

/- THE SECOND FORM. 'bulk': how many values and letters a reading holds, each counted each time it is reached (what is shared counts as often as it is met; a slice's spare places count too). A statement '..UptoSaid' is the law's where the arguments, and the package variables that the reading takes, are together of bulk at most 1048576: NARROWER than '..Said'. Prove '..Said' where nothing that the law and all that it calls make is longer than what came in: it says more and counts as full. Else prove '..UptoSaid'. A law counts once. -/
mutual
def uptoBulk {H : Type} : DataW H → Nat
  | .lit (.string bytes) => bytes.length + 1
  | .lit _ => 1
  | .nil => 1
  | .ptr d => uptoBulk d + 1
  | .slice elems spare => uptoBulkAll elems + uptoBulkAll spare + 1
  | .agg parts => uptoBulkAll parts + 1
  | .iface _ d => uptoBulk d + 1
  | .map entries => uptoBulkEntries entries + 1
  | .held _ => 1
def uptoBulkAll {H : Type} : List (DataW H) → Nat
  | [] => 0
  | d :: r => uptoBulk d + uptoBulkAll r
def uptoBulkEntries {H : Type} : List (Lit × DataW H) → Nat
  | [] => 0
  | x :: r => uptoBulkEntry x + uptoBulkEntries r
def uptoBulkEntry {H : Type} : Lit × DataW H → Nat
  | (.string bytes, d) => bytes.length + uptoBulk d + 1
  | (_, d) => uptoBulk d + 1
 end
def uptoSmall : (H : Type) → List (DataW H) → Bool := fun _ ds => decide (uptoBulkAll ds ≤ 1048576)
def OpenSpec.upto (s : _root_.Go.ChangeSpec) : _root_.Go.OpenSpec := { _root_.Go.OpenSpec.ofChange s with cond := some uptoSmall }

/-- 'laws.FnBytes', WHERE WHAT IT READS IS OF BULK AT MOST 1048576: true; the input reads as it did. -/
def fnBytesUptoRow : OpenClaim := { program := "yteliahajeokciaa", sum := "e9a7c4ec56ba1d1dd348d842de208826ba79bb08d91524ea7b5400fdc7f1b09b", func := "loop.example/g00850/laws.FnBytes", spec := "fnBytes", unfollowed := true, recurses := true, apart := false, narrowed := true }
def FnBytesUptoSaid : Prop := fnBytesUptoRow.holds Try.pinned (OpenSpec.upto fnBytesSpec)

/-- 'laws.FnCut', WHERE WHAT IT READS IS OF BULK AT MOST 1048576: true; the input reads as it did. -/
def fnCutUptoRow : OpenClaim := { program := "yteliahajeokciaa", sum := "e9a7c4ec56ba1d1dd348d842de208826ba79bb08d91524ea7b5400fdc7f1b09b", func := "loop.example/g00850/laws.FnCut", spec := "fnCut", apart := false, narrowed := true }
def FnCutUptoSaid : Prop := fnCutUptoRow.holds Try.pinned (OpenSpec.upto fnCutSpec)

/-- 'laws.FnMend', WHERE WHAT IT READS IS OF BULK AT MOST 1048576: true; the input reads as it did. -/
def fnMendUptoRow : OpenClaim := { program := "yteliahajeokciaa", sum := "e9a7c4ec56ba1d1dd348d842de208826ba79bb08d91524ea7b5400fdc7f1b09b", func := "loop.example/g00850/laws.FnMend", spec := "fnMend", apart := false, narrowed := true }
def FnMendUptoSaid : Prop := fnMendUptoRow.holds Try.pinned (OpenSpec.upto fnMendSpec)

/-- 'laws.FnTimes', WHERE WHAT IT READS IS OF BULK AT MOST 1048576: true; the input reads as it did. -/
def fnTimesUptoRow : OpenClaim := { program := "yteliahajeokciaa", sum := "e9a7c4ec56ba1d1dd348d842de208826ba79bb08d91524ea7b5400fdc7f1b09b", func := "loop.example/g00850/laws.FnTimes", spec := "fnTimes", inPlace := ["internal/bytealg.IndexByteString"], unfollowed := true, recurses := true, apart := false, narrowed := true }
def FnTimesUptoSaid : Prop := fnTimesUptoRow.holds Try.pinned (OpenSpec.upto fnTimesSpec)

/-- 'laws.FnCells', WHERE WHAT IT READS IS OF BULK AT MOST 1048576: true; the input reads as it did. -/
def fnCellsUptoRow : OpenClaim := { program := "yteliahajeokciaa", sum := "e9a7c4ec56ba1d1dd348d842de208826ba79bb08d91524ea7b5400fdc7f1b09b", func := "loop.example/g00850/laws.FnCells", spec := "fnCells", inPlace := ["internal/bytealg.IndexByteString", "slices.overlaps[loop.example/g00850/impl.Cell]"], unfollowed := true, recurses := true, apart := false, narrowed := true }
def FnCellsUptoSaid : Prop := fnCellsUptoRow.holds Try.pinned (OpenSpec.upto fnCellsSpec)

/-- 'laws.FnExactFeedCells', WHERE WHAT IT READS IS OF BULK AT MOST 1048576: true; the input reads as it did. -/
def fnExactFeedCellsUptoRow : OpenClaim := { program := "yteliahajeokciaa", sum := "e9a7c4ec56ba1d1dd348d842de208826ba79bb08d91524ea7b5400fdc7f1b09b", func := "loop.example/g00850/laws.FnExactFeedCells", spec := "fnExactFeedCells", inPlace := ["internal/bytealg.IndexByteString", "slices.overlaps[loop.example/g00850/impl.Cell]"], unfollowed := true, recurses := true, apart := false, narrowed := true }
def FnExactFeedCellsUptoSaid : Prop := fnExactFeedCellsUptoRow.holds Try.pinned (OpenSpec.upto fnExactFeedCellsSpec)

/-- 'laws.FnLocks', WHERE WHAT IT READS IS OF BULK AT MOST 1048576: true; the input reads as it did. -/
def fnLocksUptoRow : OpenClaim := { program := "yteliahajeokciaa", sum := "e9a7c4ec56ba1d1dd348d842de208826ba79bb08d91524ea7b5400fdc7f1b09b", func := "loop.example/g00850/laws.FnLocks", spec := "fnLocks", inPlace := ["internal/bytealg.IndexByteString"], unfollowed := true, recurses := true, apart := false, narrowed := true }
def FnLocksUptoSaid : Prop := fnLocksUptoRow.holds Try.pinned (OpenSpec.upto fnLocksSpec)

/-- 'laws.FnMerge', WHERE WHAT IT READS IS OF BULK AT MOST 1048576: true; the input reads as it did. -/
def fnMergeUptoRow : OpenClaim := { program := "yteliahajeokciaa", sum := "e9a7c4ec56ba1d1dd348d842de208826ba79bb08d91524ea7b5400fdc7f1b09b", func := "loop.example/g00850/laws.FnMerge", spec := "fnMerge", inPlace := ["internal/bytealg.IndexByteString"], unfollowed := true, recurses := true, apart := false, narrowed := true }
def FnMergeUptoSaid : Prop := fnMergeUptoRow.holds Try.pinned (OpenSpec.upto fnMergeSpec)

/-- 'laws.FnExactMergeFeed', WHERE WHAT IT READS IS OF BULK AT MOST 1048576: true; the input reads as it did. -/
def fnExactMergeFeedUptoRow : OpenClaim := { program := "yteliahajeokciaa", sum := "e9a7c4ec56ba1d1dd348d842de208826ba79bb08d91524ea7b5400fdc7f1b09b", func := "loop.example/g00850/laws.FnExactMergeFeed", spec := "fnExactMergeFeed", inPlace := ["internal/bytealg.IndexByteString"], unfollowed := true, recurses := true, apart := false, narrowed := true }
def FnExactMergeFeedUptoSaid : Prop := fnExactMergeFeedUptoRow.holds Try.pinned (OpenSpec.upto fnExactMergeFeedSpec)

end Rows
end Go.Proofs.Yteliahajeokciaa
