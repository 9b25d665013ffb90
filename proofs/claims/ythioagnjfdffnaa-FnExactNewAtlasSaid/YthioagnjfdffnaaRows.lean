/-
  No cell of these rows narrows 'for every input' (looked for: loops, veiled, ifaces, maps, wideKeys, modest, calm, conditions, laid).
  DERIVED. THE GIVEN ROWS OF THIS SEAT. 10 by the template 'for every input the law returns true; each argument reads behind the call as it read before'; 0 by the template 'total and deterministic' (their statements: YthioagnjfdffnaaTotals.lean).
  GIVEN WITH THE SEED: the statements are not yours to turn. If you find one false, say at which input.
  Laid BY PROGRAM, IN A SANDBOX (cutbox-rows.mjs): the forced cells as the released guide's own fill.sh prints them over the translation 98f78c9e0ab9c8a6… (all of the seat's roots in one cut). By AI agents, Wed Nov 11 2026. No macro, syntax, notation, axiom, sorry.
-/
import Derived.Test.YthioagnjfdffnaaChecked
import GoSem.Claim
import GoSem.ClaimJoined
import GoSem.ClaimMapViews
import Derived.JoinedTies
import Derived.KernelRfl
namespace Go.Proofs.Ythioagnjfdffnaa
/- THE CELL 'sum', in the pinned program and in every row, IS THE sha256 OF THE DUMP (.gsa) THAT YthioagnjfdffnaaProg.lean LOADS. Nothing in Lean hashes anything: it is a label: what it is worth is what the hold of that sum in a sandbox is worth. -/
noncomputable def Try.pinned : Pinned := { name := "ythioagnjfdffnaa", sum := "98f78c9e0ab9c8a690b513db6ebc918154628923ce2e997ff65bf05d4637fa35", checked := Try.checked }
namespace Rows
def none {H : Type} : Left H := { results := [], args := [] }

/-- 'laws.FnExactGoodMoveAct': WHATEVER THE INPUT: true; the input reads as it did. -/
def fnExactGoodMoveActSpec : ChangeSpec := { name := "fnExactGoodMoveAct", fn := fun _ => fun
  | [d1, d2] => { results := [.lit (.bool true)], args := [d1, d2] }
  | _ => none }
def fnExactGoodMoveActRow : OpenClaim := { program := "ythioagnjfdffnaa", sum := "98f78c9e0ab9c8a690b513db6ebc918154628923ce2e997ff65bf05d4637fa35", func := "loop.example/g00850/laws.FnExactGoodMoveAct", spec := "fnExactGoodMoveAct", inPlace := ["internal/bytealg.IndexByteString"], unfollowed := true, recurses := true, apart := false }
def FnExactGoodMoveActSaid : Prop := fnExactGoodMoveActRow.holds Try.pinned (OpenSpec.ofChange fnExactGoodMoveActSpec)

/-- ITS FALSE NEIGHBOUR: 'it returns false'. Refute it at one input. -/
def fnExactGoodMoveActWrong : ChangeSpec := { name := "fnExactGoodMoveAct", fn := fun _ => fun
  | [d1, d2] => { results := [.lit (.bool false)], args := [d1, d2] }
  | _ => none }
def FnExactGoodMoveActWrongFalsely : Prop := fnExactGoodMoveActRow.holds Try.pinned (OpenSpec.ofChange fnExactGoodMoveActWrong)

/-- 'laws.FnExactNewMove': WHATEVER THE INPUT: true; the input reads as it did. -/
def fnExactNewMoveSpec : ChangeSpec := { name := "fnExactNewMove", fn := fun _ => fun
  | [d1, d2, d3] => { results := [.lit (.bool true)], args := [d1, d2, d3] }
  | _ => none }
def fnExactNewMoveRow : OpenClaim := { program := "ythioagnjfdffnaa", sum := "98f78c9e0ab9c8a690b513db6ebc918154628923ce2e997ff65bf05d4637fa35", func := "loop.example/g00850/laws.FnExactNewMove", spec := "fnExactNewMove", inPlace := ["internal/bytealg.IndexByteString"], unfollowed := true, recurses := true, apart := false }
def FnExactNewMoveSaid : Prop := fnExactNewMoveRow.holds Try.pinned (OpenSpec.ofChange fnExactNewMoveSpec)

/-- ITS FALSE NEIGHBOUR: 'it returns false'. Refute it at one input. -/
def fnExactNewMoveWrong : ChangeSpec := { name := "fnExactNewMove", fn := fun _ => fun
  | [d1, d2, d3] => { results := [.lit (.bool false)], args := [d1, d2, d3] }
  | _ => none }
def FnExactNewMoveWrongFalsely : Prop := fnExactNewMoveRow.holds Try.pinned (OpenSpec.ofChange fnExactNewMoveWrong)

/-- 'laws.FnExactNewAtlas': WHATEVER THE INPUT: true; the input reads as it did. -/
def fnExactNewAtlasSpec : ChangeSpec := { name := "fnExactNewAtlas", fn := fun _ => fun
  | [d] => { results := [.lit (.bool true)], args := [d] }
  | _ => none }
def fnExactNewAtlasRow : OpenClaim := { program := "ythioagnjfdffnaa", sum := "98f78c9e0ab9c8a690b513db6ebc918154628923ce2e997ff65bf05d4637fa35", func := "loop.example/g00850/laws.FnExactNewAtlas", spec := "fnExactNewAtlas", inPlace := ["internal/bytealg.IndexByteString"], unfollowed := true, recurses := true, apart := false }
def FnExactNewAtlasSaid : Prop := fnExactNewAtlasRow.holds Try.pinned (OpenSpec.ofChange fnExactNewAtlasSpec)

/-- ITS FALSE NEIGHBOUR: 'it returns false'. Refute it at one input. -/
def fnExactNewAtlasWrong : ChangeSpec := { name := "fnExactNewAtlas", fn := fun _ => fun
  | [d] => { results := [.lit (.bool false)], args := [d] }
  | _ => none }
def FnExactNewAtlasWrongFalsely : Prop := fnExactNewAtlasRow.holds Try.pinned (OpenSpec.ofChange fnExactNewAtlasWrong)

/-- 'laws.FnExactIsCopied': WHATEVER THE INPUT: true; the input reads as it did. -/
def fnExactIsCopiedSpec : ChangeSpec := { name := "fnExactIsCopied", fn := fun _ => fun
  | [d] => { results := [.lit (.bool true)], args := [d] }
  | _ => none }
def fnExactIsCopiedRow : OpenClaim := { program := "ythioagnjfdffnaa", sum := "98f78c9e0ab9c8a690b513db6ebc918154628923ce2e997ff65bf05d4637fa35", func := "loop.example/g00850/laws.FnExactIsCopied", spec := "fnExactIsCopied", inPlace := ["internal/bytealg.IndexByteString"], unfollowed := true, recurses := true, apart := false }
def FnExactIsCopiedSaid : Prop := fnExactIsCopiedRow.holds Try.pinned (OpenSpec.ofChange fnExactIsCopiedSpec)

/-- ITS FALSE NEIGHBOUR: 'it returns false'. Refute it at one input. -/
def fnExactIsCopiedWrong : ChangeSpec := { name := "fnExactIsCopied", fn := fun _ => fun
  | [d] => { results := [.lit (.bool false)], args := [d] }
  | _ => none }
def FnExactIsCopiedWrongFalsely : Prop := fnExactIsCopiedRow.holds Try.pinned (OpenSpec.ofChange fnExactIsCopiedWrong)

/-- 'laws.FnExactReadMove': WHATEVER THE INPUT: true; the input reads as it did. -/
def fnExactReadMoveSpec : ChangeSpec := { name := "fnExactReadMove", fn := fun _ => fun
  | [d1, d2] => { results := [.lit (.bool true)], args := [d1, d2] }
  | _ => none }
def fnExactReadMoveRow : OpenClaim := { program := "ythioagnjfdffnaa", sum := "98f78c9e0ab9c8a690b513db6ebc918154628923ce2e997ff65bf05d4637fa35", func := "loop.example/g00850/laws.FnExactReadMove", spec := "fnExactReadMove", inPlace := ["internal/bytealg.IndexByteString"], unfollowed := true, recurses := true, apart := false }
def FnExactReadMoveSaid : Prop := fnExactReadMoveRow.holds Try.pinned (OpenSpec.ofChange fnExactReadMoveSpec)

/-- ITS FALSE NEIGHBOUR: 'it returns false'. Refute it at one input. -/
def fnExactReadMoveWrong : ChangeSpec := { name := "fnExactReadMove", fn := fun _ => fun
  | [d1, d2] => { results := [.lit (.bool false)], args := [d1, d2] }
  | _ => none }
def FnExactReadMoveWrongFalsely : Prop := fnExactReadMoveRow.holds Try.pinned (OpenSpec.ofChange fnExactReadMoveWrong)

/-- 'laws.FnExactSplitAt': WHATEVER THE INPUT: true; the input reads as it did. -/
def fnExactSplitAtSpec : ChangeSpec := { name := "fnExactSplitAt", fn := fun _ => fun
  | [d1, d2] => { results := [.lit (.bool true)], args := [d1, d2] }
  | _ => none }
def fnExactSplitAtRow : OpenClaim := { program := "ythioagnjfdffnaa", sum := "98f78c9e0ab9c8a690b513db6ebc918154628923ce2e997ff65bf05d4637fa35", func := "loop.example/g00850/laws.FnExactSplitAt", spec := "fnExactSplitAt", inPlace := ["internal/bytealg.IndexByteString", "slices.overlaps[string]", "slices.overlaps[int]"], unfollowed := true, recurses := true, apart := false }
def FnExactSplitAtSaid : Prop := fnExactSplitAtRow.holds Try.pinned (OpenSpec.ofChange fnExactSplitAtSpec)

/-- ITS FALSE NEIGHBOUR: 'it returns false'. Refute it at one input. -/
def fnExactSplitAtWrong : ChangeSpec := { name := "fnExactSplitAt", fn := fun _ => fun
  | [d1, d2] => { results := [.lit (.bool false)], args := [d1, d2] }
  | _ => none }
def FnExactSplitAtWrongFalsely : Prop := fnExactSplitAtRow.holds Try.pinned (OpenSpec.ofChange fnExactSplitAtWrong)

/-- 'laws.FnExactMergeFeed': WHATEVER THE INPUT: true; the input reads as it did. -/
def fnExactMergeFeedSpec : ChangeSpec := { name := "fnExactMergeFeed", fn := fun _ => fun
  | [d1, d2] => { results := [.lit (.bool true)], args := [d1, d2] }
  | _ => none }
def fnExactMergeFeedRow : OpenClaim := { program := "ythioagnjfdffnaa", sum := "98f78c9e0ab9c8a690b513db6ebc918154628923ce2e997ff65bf05d4637fa35", func := "loop.example/g00850/laws.FnExactMergeFeed", spec := "fnExactMergeFeed", inPlace := ["internal/bytealg.IndexByteString"], unfollowed := true, recurses := true, apart := false }
def FnExactMergeFeedSaid : Prop := fnExactMergeFeedRow.holds Try.pinned (OpenSpec.ofChange fnExactMergeFeedSpec)

/-- ITS FALSE NEIGHBOUR: 'it returns false'. Refute it at one input. -/
def fnExactMergeFeedWrong : ChangeSpec := { name := "fnExactMergeFeed", fn := fun _ => fun
  | [d1, d2] => { results := [.lit (.bool false)], args := [d1, d2] }
  | _ => none }
def FnExactMergeFeedWrongFalsely : Prop := fnExactMergeFeedRow.holds Try.pinned (OpenSpec.ofChange fnExactMergeFeedWrong)

/-- 'laws.FnExactIsNext': WHATEVER THE INPUT: true; the input reads as it did. -/
def fnExactIsNextSpec : ChangeSpec := { name := "fnExactIsNext", fn := fun _ => fun
  | [d1, d2] => { results := [.lit (.bool true)], args := [d1, d2] }
  | _ => none }
def fnExactIsNextRow : OpenClaim := { program := "ythioagnjfdffnaa", sum := "98f78c9e0ab9c8a690b513db6ebc918154628923ce2e997ff65bf05d4637fa35", func := "loop.example/g00850/laws.FnExactIsNext", spec := "fnExactIsNext", inPlace := ["internal/bytealg.IndexByteString", "slices.overlaps[string]", "slices.overlaps[int]"], unfollowed := true, recurses := true, apart := false }
def FnExactIsNextSaid : Prop := fnExactIsNextRow.holds Try.pinned (OpenSpec.ofChange fnExactIsNextSpec)

/-- ITS FALSE NEIGHBOUR: 'it returns false'. Refute it at one input. -/
def fnExactIsNextWrong : ChangeSpec := { name := "fnExactIsNext", fn := fun _ => fun
  | [d1, d2] => { results := [.lit (.bool false)], args := [d1, d2] }
  | _ => none }
def FnExactIsNextWrongFalsely : Prop := fnExactIsNextRow.holds Try.pinned (OpenSpec.ofChange fnExactIsNextWrong)

/-- 'laws.FnExactGoodAtlas': WHATEVER THE INPUT: true; the input reads as it did. -/
def fnExactGoodAtlasSpec : ChangeSpec := { name := "fnExactGoodAtlas", fn := fun _ => fun
  | [d] => { results := [.lit (.bool true)], args := [d] }
  | _ => none }
def fnExactGoodAtlasRow : OpenClaim := { program := "ythioagnjfdffnaa", sum := "98f78c9e0ab9c8a690b513db6ebc918154628923ce2e997ff65bf05d4637fa35", func := "loop.example/g00850/laws.FnExactGoodAtlas", spec := "fnExactGoodAtlas", inPlace := ["internal/bytealg.IndexByteString", "slices.overlaps[string]", "slices.overlaps[int]"], unfollowed := true, recurses := true, apart := false }
def FnExactGoodAtlasSaid : Prop := fnExactGoodAtlasRow.holds Try.pinned (OpenSpec.ofChange fnExactGoodAtlasSpec)

/-- ITS FALSE NEIGHBOUR: 'it returns false'. Refute it at one input. -/
def fnExactGoodAtlasWrong : ChangeSpec := { name := "fnExactGoodAtlas", fn := fun _ => fun
  | [d] => { results := [.lit (.bool false)], args := [d] }
  | _ => none }
def FnExactGoodAtlasWrongFalsely : Prop := fnExactGoodAtlasRow.holds Try.pinned (OpenSpec.ofChange fnExactGoodAtlasWrong)

/-- 'laws.FnExactOwnersOf': WHATEVER THE INPUT: true; the input reads as it did. -/
def fnExactOwnersOfSpec : ChangeSpec := { name := "fnExactOwnersOf", fn := fun _ => fun
  | [d1, d2] => { results := [.lit (.bool true)], args := [d1, d2] }
  | _ => none }
def fnExactOwnersOfRow : OpenClaim := { program := "ythioagnjfdffnaa", sum := "98f78c9e0ab9c8a690b513db6ebc918154628923ce2e997ff65bf05d4637fa35", func := "loop.example/g00850/laws.FnExactOwnersOf", spec := "fnExactOwnersOf", inPlace := ["internal/bytealg.IndexByteString", "slices.overlaps[string]", "slices.overlaps[int]"], unfollowed := true, recurses := true, apart := false }
def FnExactOwnersOfSaid : Prop := fnExactOwnersOfRow.holds Try.pinned (OpenSpec.ofChange fnExactOwnersOfSpec)

/-- ITS FALSE NEIGHBOUR: 'it returns false'. Refute it at one input. -/
def fnExactOwnersOfWrong : ChangeSpec := { name := "fnExactOwnersOf", fn := fun _ => fun
  | [d1, d2] => { results := [.lit (.bool false)], args := [d1, d2] }
  | _ => none }
def FnExactOwnersOfWrongFalsely : Prop := fnExactOwnersOfRow.holds Try.pinned (OpenSpec.ofChange fnExactOwnersOfWrong)

/- THE SECOND FORM. 'bulk': how many values and letters a reading holds, each counted each time it is reached (what is shared counts as often as it is met; a slice's spare places count too). A statement '..UptoSaid' is the law's where the arguments, and the package variables that the reading takes, are together of bulk at most 1048576: NARROWER than '..Said'. Prove '..Said' where nothing that the law and all that it calls make is longer than what came in: it says more and counts as full. Else prove '..UptoSaid'. A law counts once. -/
mutual
def uptoBulk {H : Type} : DataW H → Nat
  | .lit (.string bytes) => bytes.length + 1
  | .lit _ => 1
  | .nil => 1
  | .ptr d => uptoBulk d + 1
  | .slice elems spare => uptoBulkAll elems + uptoBulkAll spare + 1
  | .agg parts => uptoBulkAll parts + 1
  | .iface _ d => uptoBulk d + 1
  | .map entries => uptoBulkEntries entries + 1
  | .held _ => 1
def uptoBulkAll {H : Type} : List (DataW H) → Nat
  | [] => 0
  | d :: r => uptoBulk d + uptoBulkAll r
def uptoBulkEntries {H : Type} : List (Lit × DataW H) → Nat
  | [] => 0
  | x :: r => uptoBulkEntry x + uptoBulkEntries r
def uptoBulkEntry {H : Type} : Lit × DataW H → Nat
  | (.string bytes, d) => bytes.length + uptoBulk d + 1
  | (_, d) => uptoBulk d + 1
 end
def uptoSmall : (H : Type) → List (DataW H) → Bool := fun _ ds => decide (uptoBulkAll ds ≤ 1048576)
def OpenSpec.upto (s : _root_.Go.ChangeSpec) : _root_.Go.OpenSpec := { _root_.Go.OpenSpec.ofChange s with cond := some uptoSmall }

/-- 'laws.FnExactGoodMoveAct', WHERE WHAT IT READS IS OF BULK AT MOST 1048576: true; the input reads as it did. -/
def fnExactGoodMoveActUptoRow : OpenClaim := { program := "ythioagnjfdffnaa", sum := "98f78c9e0ab9c8a690b513db6ebc918154628923ce2e997ff65bf05d4637fa35", func := "loop.example/g00850/laws.FnExactGoodMoveAct", spec := "fnExactGoodMoveAct", inPlace := ["internal/bytealg.IndexByteString"], unfollowed := true, recurses := true, apart := false, narrowed := true }
def FnExactGoodMoveActUptoSaid : Prop := fnExactGoodMoveActUptoRow.holds Try.pinned (OpenSpec.upto fnExactGoodMoveActSpec)

/-- 'laws.FnExactNewMove', WHERE WHAT IT READS IS OF BULK AT MOST 1048576: true; the input reads as it did. -/
def fnExactNewMoveUptoRow : OpenClaim := { program := "ythioagnjfdffnaa", sum := "98f78c9e0ab9c8a690b513db6ebc918154628923ce2e997ff65bf05d4637fa35", func := "loop.example/g00850/laws.FnExactNewMove", spec := "fnExactNewMove", inPlace := ["internal/bytealg.IndexByteString"], unfollowed := true, recurses := true, apart := false, narrowed := true }
def FnExactNewMoveUptoSaid : Prop := fnExactNewMoveUptoRow.holds Try.pinned (OpenSpec.upto fnExactNewMoveSpec)

/-- 'laws.FnExactNewAtlas', WHERE WHAT IT READS IS OF BULK AT MOST 1048576: true; the input reads as it did. -/
def fnExactNewAtlasUptoRow : OpenClaim := { program := "ythioagnjfdffnaa", sum := "98f78c9e0ab9c8a690b513db6ebc918154628923ce2e997ff65bf05d4637fa35", func := "loop.example/g00850/laws.FnExactNewAtlas", spec := "fnExactNewAtlas", inPlace := ["internal/bytealg.IndexByteString"], unfollowed := true, recurses := true, apart := false, narrowed := true }
def FnExactNewAtlasUptoSaid : Prop := fnExactNewAtlasUptoRow.holds Try.pinned (OpenSpec.upto fnExactNewAtlasSpec)

/-- 'laws.FnExactIsCopied', WHERE WHAT IT READS IS OF BULK AT MOST 1048576: true; the input reads as it did. -/
def fnExactIsCopiedUptoRow : OpenClaim := { program := "ythioagnjfdffnaa", sum := "98f78c9e0ab9c8a690b513db6ebc918154628923ce2e997ff65bf05d4637fa35", func := "loop.example/g00850/laws.FnExactIsCopied", spec := "fnExactIsCopied", inPlace := ["internal/bytealg.IndexByteString"], unfollowed := true, recurses := true, apart := false, narrowed := true }
def FnExactIsCopiedUptoSaid : Prop := fnExactIsCopiedUptoRow.holds Try.pinned (OpenSpec.upto fnExactIsCopiedSpec)

/-- 'laws.FnExactReadMove', WHERE WHAT IT READS IS OF BULK AT MOST 1048576: true; the input reads as it did. -/
def fnExactReadMoveUptoRow : OpenClaim := { program := "ythioagnjfdffnaa", sum := "98f78c9e0ab9c8a690b513db6ebc918154628923ce2e997ff65bf05d4637fa35", func := "loop.example/g00850/laws.FnExactReadMove", spec := "fnExactReadMove", inPlace := ["internal/bytealg.IndexByteString"], unfollowed := true, recurses := true, apart := false, narrowed := true }
def FnExactReadMoveUptoSaid : Prop := fnExactReadMoveUptoRow.holds Try.pinned (OpenSpec.upto fnExactReadMoveSpec)

/-- 'laws.FnExactSplitAt', WHERE WHAT IT READS IS OF BULK AT MOST 1048576: true; the input reads as it did. -/
def fnExactSplitAtUptoRow : OpenClaim := { program := "ythioagnjfdffnaa", sum := "98f78c9e0ab9c8a690b513db6ebc918154628923ce2e997ff65bf05d4637fa35", func := "loop.example/g00850/laws.FnExactSplitAt", spec := "fnExactSplitAt", inPlace := ["internal/bytealg.IndexByteString", "slices.overlaps[string]", "slices.overlaps[int]"], unfollowed := true, recurses := true, apart := false, narrowed := true }
def FnExactSplitAtUptoSaid : Prop := fnExactSplitAtUptoRow.holds Try.pinned (OpenSpec.upto fnExactSplitAtSpec)

/-- 'laws.FnExactMergeFeed', WHERE WHAT IT READS IS OF BULK AT MOST 1048576: true; the input reads as it did. -/
def fnExactMergeFeedUptoRow : OpenClaim := { program := "ythioagnjfdffnaa", sum := "98f78c9e0ab9c8a690b513db6ebc918154628923ce2e997ff65bf05d4637fa35", func := "loop.example/g00850/laws.FnExactMergeFeed", spec := "fnExactMergeFeed", inPlace := ["internal/bytealg.IndexByteString"], unfollowed := true, recurses := true, apart := false, narrowed := true }
def FnExactMergeFeedUptoSaid : Prop := fnExactMergeFeedUptoRow.holds Try.pinned (OpenSpec.upto fnExactMergeFeedSpec)

/-- 'laws.FnExactIsNext', WHERE WHAT IT READS IS OF BULK AT MOST 1048576: true; the input reads as it did. -/
def fnExactIsNextUptoRow : OpenClaim := { program := "ythioagnjfdffnaa", sum := "98f78c9e0ab9c8a690b513db6ebc918154628923ce2e997ff65bf05d4637fa35", func := "loop.example/g00850/laws.FnExactIsNext", spec := "fnExactIsNext", inPlace := ["internal/bytealg.IndexByteString", "slices.overlaps[string]", "slices.overlaps[int]"], unfollowed := true, recurses := true, apart := false, narrowed := true }
def FnExactIsNextUptoSaid : Prop := fnExactIsNextUptoRow.holds Try.pinned (OpenSpec.upto fnExactIsNextSpec)

/-- 'laws.FnExactGoodAtlas', WHERE WHAT IT READS IS OF BULK AT MOST 1048576: true; the input reads as it did. -/
def fnExactGoodAtlasUptoRow : OpenClaim := { program := "ythioagnjfdffnaa", sum := "98f78c9e0ab9c8a690b513db6ebc918154628923ce2e997ff65bf05d4637fa35", func := "loop.example/g00850/laws.FnExactGoodAtlas", spec := "fnExactGoodAtlas", inPlace := ["internal/bytealg.IndexByteString", "slices.overlaps[string]", "slices.overlaps[int]"], unfollowed := true, recurses := true, apart := false, narrowed := true }
def FnExactGoodAtlasUptoSaid : Prop := fnExactGoodAtlasUptoRow.holds Try.pinned (OpenSpec.upto fnExactGoodAtlasSpec)

/-- 'laws.FnExactOwnersOf', WHERE WHAT IT READS IS OF BULK AT MOST 1048576: true; the input reads as it did. -/
def fnExactOwnersOfUptoRow : OpenClaim := { program := "ythioagnjfdffnaa", sum := "98f78c9e0ab9c8a690b513db6ebc918154628923ce2e997ff65bf05d4637fa35", func := "loop.example/g00850/laws.FnExactOwnersOf", spec := "fnExactOwnersOf", inPlace := ["internal/bytealg.IndexByteString", "slices.overlaps[string]", "slices.overlaps[int]"], unfollowed := true, recurses := true, apart := false, narrowed := true }
def FnExactOwnersOfUptoSaid : Prop := fnExactOwnersOfUptoRow.holds Try.pinned (OpenSpec.upto fnExactOwnersOfSpec)

end Rows
end Go.Proofs.Ythioagnjfdffnaa
