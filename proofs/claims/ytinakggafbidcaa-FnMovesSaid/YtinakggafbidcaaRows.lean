/-
  No cell of these rows narrows 'for every input' (looked for: loops, veiled, ifaces, maps, wideKeys, modest, calm, conditions, laid).
  DERIVED. THE GIVEN ROWS OF THIS SEAT. 5 by the template 'for every input the law returns true; each argument reads behind the call as it read before'; 0 by the template 'total and deterministic' (their statements: YtinakggafbidcaaTotals.lean).
  GIVEN WITH THE SEED: the statements are not yours to turn. If you find one false, say at which input.
  Laid BY PROGRAM, IN A SANDBOX (cutbox-rows.mjs): the forced cells as the released guide's own fill.sh prints them over the translation e40a9c2f5a35f2b1… (all of the seat's roots in one cut). By AI agents, Wed Nov 11 2026. No macro, syntax, notation, axiom, sorry.
-/
import Derived.Test.YtinakggafbidcaaChecked
import GoSem.Claim
import GoSem.ClaimJoined
import GoSem.ClaimMapViews
import Derived.JoinedTies
import Derived.KernelRfl
namespace Go.Proofs.Ytinakggafbidcaa
/- THE CELL 'sum', in the pinned program and in every row, IS THE sha256 OF THE DUMP (.gsa) THAT YtinakggafbidcaaProg.lean LOADS. Nothing in Lean hashes anything: it is a label: what it is worth is what the hold of that sum in a sandbox is worth. -/
noncomputable def Try.pinned : Pinned := { name := "ytinakggafbidcaa", sum := "e40a9c2f5a35f2b17746342426023cb478f9c9bc9ccc819de3481b90e0b034c0", checked := Try.checked }
namespace Rows
def none {H : Type} : Left H := { results := [], args := [] }

/-- 'laws.FnExactStepMove': WHATEVER THE INPUT: true; the input reads as it did. -/
def fnExactStepMoveSpec : ChangeSpec := { name := "fnExactStepMove", fn := fun _ => fun
  | [d1, d2] => { results := [.lit (.bool true)], args := [d1, d2] }
  | _ => none }
def fnExactStepMoveRow : OpenClaim := { program := "ytinakggafbidcaa", sum := "e40a9c2f5a35f2b17746342426023cb478f9c9bc9ccc819de3481b90e0b034c0", func := "loop.example/g00850/laws.FnExactStepMove", spec := "fnExactStepMove", inPlace := ["internal/bytealg.IndexByteString", "slices.overlaps[loop.example/g00850/impl.Write]"], unfollowed := true, recurses := true, apart := false }
def FnExactStepMoveSaid : Prop := fnExactStepMoveRow.holds Try.pinned (OpenSpec.ofChange fnExactStepMoveSpec)

/-- ITS FALSE NEIGHBOUR: 'it returns false'. Refute it at one input. -/
def fnExactStepMoveWrong : ChangeSpec := { name := "fnExactStepMove", fn := fun _ => fun
  | [d1, d2] => { results := [.lit (.bool false)], args := [d1, d2] }
  | _ => none }
def FnExactStepMoveWrongFalsely : Prop := fnExactStepMoveRow.holds Try.pinned (OpenSpec.ofChange fnExactStepMoveWrong)

/-- 'laws.FnExactPlayMove': WHATEVER THE INPUT: true; the input reads as it did. -/
def fnExactPlayMoveSpec : ChangeSpec := { name := "fnExactPlayMove", fn := fun _ => fun
  | [d1, d2] => { results := [.lit (.bool true)], args := [d1, d2] }
  | _ => none }
def fnExactPlayMoveRow : OpenClaim := { program := "ytinakggafbidcaa", sum := "e40a9c2f5a35f2b17746342426023cb478f9c9bc9ccc819de3481b90e0b034c0", func := "loop.example/g00850/laws.FnExactPlayMove", spec := "fnExactPlayMove", inPlace := ["internal/bytealg.IndexByteString", "slices.overlaps[loop.example/g00850/impl.Write]"], unfollowed := true, recurses := true, apart := false }
def FnExactPlayMoveSaid : Prop := fnExactPlayMoveRow.holds Try.pinned (OpenSpec.ofChange fnExactPlayMoveSpec)

/-- ITS FALSE NEIGHBOUR: 'it returns false'. Refute it at one input. -/
def fnExactPlayMoveWrong : ChangeSpec := { name := "fnExactPlayMove", fn := fun _ => fun
  | [d1, d2] => { results := [.lit (.bool false)], args := [d1, d2] }
  | _ => none }
def FnExactPlayMoveWrongFalsely : Prop := fnExactPlayMoveRow.holds Try.pinned (OpenSpec.ofChange fnExactPlayMoveWrong)

/-- 'laws.FnHands': WHATEVER THE INPUT: true; the input reads as it did. -/
def fnHandsSpec : ChangeSpec := { name := "fnHands", fn := fun _ => fun
  | [d1, d2] => { results := [.lit (.bool true)], args := [d1, d2] }
  | _ => none }
def fnHandsRow : OpenClaim := { program := "ytinakggafbidcaa", sum := "e40a9c2f5a35f2b17746342426023cb478f9c9bc9ccc819de3481b90e0b034c0", func := "loop.example/g00850/laws.FnHands", spec := "fnHands", inPlace := ["internal/bytealg.IndexByteString", "slices.overlaps[loop.example/g00850/impl.Write]"], unfollowed := true, recurses := true, apart := false }
def FnHandsSaid : Prop := fnHandsRow.holds Try.pinned (OpenSpec.ofChange fnHandsSpec)

/-- ITS FALSE NEIGHBOUR: 'it returns false'. Refute it at one input. -/
def fnHandsWrong : ChangeSpec := { name := "fnHands", fn := fun _ => fun
  | [d1, d2] => { results := [.lit (.bool false)], args := [d1, d2] }
  | _ => none }
def FnHandsWrongFalsely : Prop := fnHandsRow.holds Try.pinned (OpenSpec.ofChange fnHandsWrong)

/-- 'laws.FnMoveReads': WHATEVER THE INPUT: true; the input reads as it did. -/
def fnMoveReadsSpec : ChangeSpec := { name := "fnMoveReads", fn := fun _ => fun
  | [d1, d2] => { results := [.lit (.bool true)], args := [d1, d2] }
  | _ => none }
def fnMoveReadsRow : OpenClaim := { program := "ytinakggafbidcaa", sum := "e40a9c2f5a35f2b17746342426023cb478f9c9bc9ccc819de3481b90e0b034c0", func := "loop.example/g00850/laws.FnMoveReads", spec := "fnMoveReads", inPlace := ["internal/bytealg.IndexByteString", "slices.overlaps[loop.example/g00850/impl.Write]"], unfollowed := true, recurses := true, apart := false }
def FnMoveReadsSaid : Prop := fnMoveReadsRow.holds Try.pinned (OpenSpec.ofChange fnMoveReadsSpec)

/-- ITS FALSE NEIGHBOUR: 'it returns false'. Refute it at one input. -/
def fnMoveReadsWrong : ChangeSpec := { name := "fnMoveReads", fn := fun _ => fun
  | [d1, d2] => { results := [.lit (.bool false)], args := [d1, d2] }
  | _ => none }
def FnMoveReadsWrongFalsely : Prop := fnMoveReadsRow.holds Try.pinned (OpenSpec.ofChange fnMoveReadsWrong)

/-- 'laws.FnMoves': WHATEVER THE INPUT: true; the input reads as it did. -/
def fnMovesSpec : ChangeSpec := { name := "fnMoves", fn := fun _ => fun
  | [d1, d2] => { results := [.lit (.bool true)], args := [d1, d2] }
  | _ => none }
def fnMovesRow : OpenClaim := { program := "ytinakggafbidcaa", sum := "e40a9c2f5a35f2b17746342426023cb478f9c9bc9ccc819de3481b90e0b034c0", func := "loop.example/g00850/laws.FnMoves", spec := "fnMoves", inPlace := ["internal/bytealg.IndexByteString", "slices.overlaps[loop.example/g00850/impl.Write]"], unfollowed := true, recurses := true, apart := false }
def FnMovesSaid : Prop := fnMovesRow.holds Try.pinned (OpenSpec.ofChange fnMovesSpec)

/-- ITS FALSE NEIGHBOUR: 'it returns false'. Refute it at one input. -/
def fnMovesWrong : ChangeSpec := { name := "fnMoves", fn := fun _ => fun
  | [d1, d2] => { results := [.lit (.bool false)], args := [d1, d2] }
  | _ => none }
def FnMovesWrongFalsely : Prop := fnMovesRow.holds Try.pinned (OpenSpec.ofChange fnMovesWrong)

/- THE SECOND FORM. 'bulk': how many values and letters a reading holds, each counted each time it is reached (what is shared counts as often as it is met; a slice's spare places count too). A statement '..UptoSaid' is the law's where the arguments, and the package variables that the reading takes, are together of bulk at most 1048576: NARROWER than '..Said'. Prove '..Said' where nothing that the law and all that it calls make is longer than what came in: it says more and counts as full. Else prove '..UptoSaid'. A law counts once. -/
mutual
def uptoBulk {H : Type} : DataW H → Nat
  | .lit (.string bytes) => bytes.length + 1
  | .lit _ => 1
  | .nil => 1
  | .ptr d => uptoBulk d + 1
  | .slice elems spare => uptoBulkAll elems + uptoBulkAll spare + 1
  | .agg parts => uptoBulkAll parts + 1
  | .iface _ d => uptoBulk d + 1
  | .map entries => uptoBulkEntries entries + 1
  | .held _ => 1
def uptoBulkAll {H : Type} : List (DataW H) → Nat
  | [] => 0
  | d :: r => uptoBulk d + uptoBulkAll r
def uptoBulkEntries {H : Type} : List (Lit × DataW H) → Nat
  | [] => 0
  | x :: r => uptoBulkEntry x + uptoBulkEntries r
def uptoBulkEntry {H : Type} : Lit × DataW H → Nat
  | (.string bytes, d) => bytes.length + uptoBulk d + 1
  | (_, d) => uptoBulk d + 1
 end
def uptoSmall : (H : Type) → List (DataW H) → Bool := fun _ ds => decide (uptoBulkAll ds ≤ 1048576)
def OpenSpec.upto (s : _root_.Go.ChangeSpec) : _root_.Go.OpenSpec := { _root_.Go.OpenSpec.ofChange s with cond := some uptoSmall }

/-- 'laws.FnExactStepMove', WHERE WHAT IT READS IS OF BULK AT MOST 1048576: true; the input reads as it did. -/
def fnExactStepMoveUptoRow : OpenClaim := { program := "ytinakggafbidcaa", sum := "e40a9c2f5a35f2b17746342426023cb478f9c9bc9ccc819de3481b90e0b034c0", func := "loop.example/g00850/laws.FnExactStepMove", spec := "fnExactStepMove", inPlace := ["internal/bytealg.IndexByteString", "slices.overlaps[loop.example/g00850/impl.Write]"], unfollowed := true, recurses := true, apart := false, narrowed := true }
def FnExactStepMoveUptoSaid : Prop := fnExactStepMoveUptoRow.holds Try.pinned (OpenSpec.upto fnExactStepMoveSpec)

/-- 'laws.FnExactPlayMove', WHERE WHAT IT READS IS OF BULK AT MOST 1048576: true; the input reads as it did. -/
def fnExactPlayMoveUptoRow : OpenClaim := { program := "ytinakggafbidcaa", sum := "e40a9c2f5a35f2b17746342426023cb478f9c9bc9ccc819de3481b90e0b034c0", func := "loop.example/g00850/laws.FnExactPlayMove", spec := "fnExactPlayMove", inPlace := ["internal/bytealg.IndexByteString", "slices.overlaps[loop.example/g00850/impl.Write]"], unfollowed := true, recurses := true, apart := false, narrowed := true }
def FnExactPlayMoveUptoSaid : Prop := fnExactPlayMoveUptoRow.holds Try.pinned (OpenSpec.upto fnExactPlayMoveSpec)

/-- 'laws.FnHands', WHERE WHAT IT READS IS OF BULK AT MOST 1048576: true; the input reads as it did. -/
def fnHandsUptoRow : OpenClaim := { program := "ytinakggafbidcaa", sum := "e40a9c2f5a35f2b17746342426023cb478f9c9bc9ccc819de3481b90e0b034c0", func := "loop.example/g00850/laws.FnHands", spec := "fnHands", inPlace := ["internal/bytealg.IndexByteString", "slices.overlaps[loop.example/g00850/impl.Write]"], unfollowed := true, recurses := true, apart := false, narrowed := true }
def FnHandsUptoSaid : Prop := fnHandsUptoRow.holds Try.pinned (OpenSpec.upto fnHandsSpec)

/-- 'laws.FnMoveReads', WHERE WHAT IT READS IS OF BULK AT MOST 1048576: true; the input reads as it did. -/
def fnMoveReadsUptoRow : OpenClaim := { program := "ytinakggafbidcaa", sum := "e40a9c2f5a35f2b17746342426023cb478f9c9bc9ccc819de3481b90e0b034c0", func := "loop.example/g00850/laws.FnMoveReads", spec := "fnMoveReads", inPlace := ["internal/bytealg.IndexByteString", "slices.overlaps[loop.example/g00850/impl.Write]"], unfollowed := true, recurses := true, apart := false, narrowed := true }
def FnMoveReadsUptoSaid : Prop := fnMoveReadsUptoRow.holds Try.pinned (OpenSpec.upto fnMoveReadsSpec)

/-- 'laws.FnMoves', WHERE WHAT IT READS IS OF BULK AT MOST 1048576: true; the input reads as it did. -/
def fnMovesUptoRow : OpenClaim := { program := "ytinakggafbidcaa", sum := "e40a9c2f5a35f2b17746342426023cb478f9c9bc9ccc819de3481b90e0b034c0", func := "loop.example/g00850/laws.FnMoves", spec := "fnMoves", inPlace := ["internal/bytealg.IndexByteString", "slices.overlaps[loop.example/g00850/impl.Write]"], unfollowed := true, recurses := true, apart := false, narrowed := true }
def FnMovesUptoSaid : Prop := fnMovesUptoRow.holds Try.pinned (OpenSpec.upto fnMovesSpec)

end Rows
end Go.Proofs.Ytinakggafbidcaa
