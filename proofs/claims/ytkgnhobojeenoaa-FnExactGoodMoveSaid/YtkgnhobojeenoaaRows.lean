/-
  No cell of these rows narrows 'for every input' (looked for: loops, veiled, ifaces, maps, wideKeys, modest, calm, conditions, laid).
  DERIVED. THE GIVEN ROWS OF THIS SEAT. 7 by the template 'for every input the law returns true; each argument reads behind the call as it read before'; 0 by the template 'total and deterministic' (their statements: YtkgnhobojeenoaaTotals.lean).
  GIVEN WITH THE SEED: the statements are not yours to turn. If you find one false, say at which input.
  Laid BY PROGRAM, IN A SANDBOX (cutbox-rows.mjs): the forced cells as the released guide's own fill.sh prints them over the translation 037d09e9e24929bb… (all of the seat's roots in one cut). By AI agents, Wed Nov 11 2026. No macro, syntax, notation, axiom, sorry.
-/
import Derived.Test.YtkgnhobojeenoaaChecked
import GoSem.Claim
import GoSem.ClaimJoined
import GoSem.ClaimMapViews
import Derived.JoinedTies
import Derived.KernelRfl
namespace Go.Proofs.Ytkgnhobojeenoaa
/- THE CELL 'sum', in the pinned program and in every row, IS THE sha256 OF THE DUMP (.gsa) THAT YtkgnhobojeenoaaProg.lean LOADS. Nothing in Lean hashes anything: it is a label: what it is worth is what the hold of that sum in a sandbox is worth. -/
noncomputable def Try.pinned : Pinned := { name := "ytkgnhobojeenoaa", sum := "037d09e9e24929bb3d1332a9f1d5ae8a32a08d6612a3133590a70ae9eb568802", checked := Try.checked }
namespace Rows
def none {H : Type} : Left H := { results := [], args := [] }

/-- 'laws.FnExactIsWithin': WHATEVER THE INPUT: true; the input reads as it did. -/
def fnExactIsWithinSpec : ChangeSpec := { name := "fnExactIsWithin", fn := fun _ => fun
  | [d1, d2, d3] => { results := [.lit (.bool true)], args := [d1, d2, d3] }
  | _ => none }
def fnExactIsWithinRow : OpenClaim := { program := "ytkgnhobojeenoaa", sum := "037d09e9e24929bb3d1332a9f1d5ae8a32a08d6612a3133590a70ae9eb568802", func := "loop.example/g00850/laws.FnExactIsWithin", spec := "fnExactIsWithin", inPlace := ["internal/bytealg.IndexByteString"], apart := false }
def FnExactIsWithinSaid : Prop := fnExactIsWithinRow.holds Try.pinned (OpenSpec.ofChange fnExactIsWithinSpec)

/-- ITS FALSE NEIGHBOUR: 'it returns false'. Refute it at one input. -/
def fnExactIsWithinWrong : ChangeSpec := { name := "fnExactIsWithin", fn := fun _ => fun
  | [d1, d2, d3] => { results := [.lit (.bool false)], args := [d1, d2, d3] }
  | _ => none }
def FnExactIsWithinWrongFalsely : Prop := fnExactIsWithinRow.holds Try.pinned (OpenSpec.ofChange fnExactIsWithinWrong)

/-- 'laws.FnExactGoodItem': WHATEVER THE INPUT: true; the input reads as it did. -/
def fnExactGoodItemSpec : ChangeSpec := { name := "fnExactGoodItem", fn := fun _ => fun
  | [d] => { results := [.lit (.bool true)], args := [d] }
  | _ => none }
def fnExactGoodItemRow : OpenClaim := { program := "ytkgnhobojeenoaa", sum := "037d09e9e24929bb3d1332a9f1d5ae8a32a08d6612a3133590a70ae9eb568802", func := "loop.example/g00850/laws.FnExactGoodItem", spec := "fnExactGoodItem", inPlace := ["internal/bytealg.IndexByteString"], apart := false }
def FnExactGoodItemSaid : Prop := fnExactGoodItemRow.holds Try.pinned (OpenSpec.ofChange fnExactGoodItemSpec)

/-- ITS FALSE NEIGHBOUR: 'it returns false'. Refute it at one input. -/
def fnExactGoodItemWrong : ChangeSpec := { name := "fnExactGoodItem", fn := fun _ => fun
  | [d] => { results := [.lit (.bool false)], args := [d] }
  | _ => none }
def FnExactGoodItemWrongFalsely : Prop := fnExactGoodItemRow.holds Try.pinned (OpenSpec.ofChange fnExactGoodItemWrong)

/-- 'laws.FnExactGoodFeed': WHATEVER THE INPUT: true; the input reads as it did. -/
def fnExactGoodFeedSpec : ChangeSpec := { name := "fnExactGoodFeed", fn := fun _ => fun
  | [d] => { results := [.lit (.bool true)], args := [d] }
  | _ => none }
def fnExactGoodFeedRow : OpenClaim := { program := "ytkgnhobojeenoaa", sum := "037d09e9e24929bb3d1332a9f1d5ae8a32a08d6612a3133590a70ae9eb568802", func := "loop.example/g00850/laws.FnExactGoodFeed", spec := "fnExactGoodFeed", inPlace := ["internal/bytealg.IndexByteString"], unfollowed := true, recurses := true, apart := false }
def FnExactGoodFeedSaid : Prop := fnExactGoodFeedRow.holds Try.pinned (OpenSpec.ofChange fnExactGoodFeedSpec)

/-- ITS FALSE NEIGHBOUR: 'it returns false'. Refute it at one input. -/
def fnExactGoodFeedWrong : ChangeSpec := { name := "fnExactGoodFeed", fn := fun _ => fun
  | [d] => { results := [.lit (.bool false)], args := [d] }
  | _ => none }
def FnExactGoodFeedWrongFalsely : Prop := fnExactGoodFeedRow.holds Try.pinned (OpenSpec.ofChange fnExactGoodFeedWrong)

/-- 'laws.FnExactGoodTable': WHATEVER THE INPUT: true; the input reads as it did. -/
def fnExactGoodTableSpec : ChangeSpec := { name := "fnExactGoodTable", fn := fun _ => fun
  | [d] => { results := [.lit (.bool true)], args := [d] }
  | _ => none }
def fnExactGoodTableRow : OpenClaim := { program := "ytkgnhobojeenoaa", sum := "037d09e9e24929bb3d1332a9f1d5ae8a32a08d6612a3133590a70ae9eb568802", func := "loop.example/g00850/laws.FnExactGoodTable", spec := "fnExactGoodTable", apart := false }
def FnExactGoodTableSaid : Prop := fnExactGoodTableRow.holds Try.pinned (OpenSpec.ofChange fnExactGoodTableSpec)

/-- ITS FALSE NEIGHBOUR: 'it returns false'. Refute it at one input. -/
def fnExactGoodTableWrong : ChangeSpec := { name := "fnExactGoodTable", fn := fun _ => fun
  | [d] => { results := [.lit (.bool false)], args := [d] }
  | _ => none }
def FnExactGoodTableWrongFalsely : Prop := fnExactGoodTableRow.holds Try.pinned (OpenSpec.ofChange fnExactGoodTableWrong)

/-- 'laws.FnExactColAt': WHATEVER THE INPUT: true; the input reads as it did. -/
def fnExactColAtSpec : ChangeSpec := { name := "fnExactColAt", fn := fun _ => fun
  | [d1, d2] => { results := [.lit (.bool true)], args := [d1, d2] }
  | _ => none }
def fnExactColAtRow : OpenClaim := { program := "ytkgnhobojeenoaa", sum := "037d09e9e24929bb3d1332a9f1d5ae8a32a08d6612a3133590a70ae9eb568802", func := "loop.example/g00850/laws.FnExactColAt", spec := "fnExactColAt", apart := false }
def FnExactColAtSaid : Prop := fnExactColAtRow.holds Try.pinned (OpenSpec.ofChange fnExactColAtSpec)

/-- ITS FALSE NEIGHBOUR: 'it returns false'. Refute it at one input. -/
def fnExactColAtWrong : ChangeSpec := { name := "fnExactColAt", fn := fun _ => fun
  | [d1, d2] => { results := [.lit (.bool false)], args := [d1, d2] }
  | _ => none }
def FnExactColAtWrongFalsely : Prop := fnExactColAtRow.holds Try.pinned (OpenSpec.ofChange fnExactColAtWrong)

/-- 'laws.FnExactIdxAt': WHATEVER THE INPUT: true; the input reads as it did. -/
def fnExactIdxAtSpec : ChangeSpec := { name := "fnExactIdxAt", fn := fun _ => fun
  | [d1, d2] => { results := [.lit (.bool true)], args := [d1, d2] }
  | _ => none }
def fnExactIdxAtRow : OpenClaim := { program := "ytkgnhobojeenoaa", sum := "037d09e9e24929bb3d1332a9f1d5ae8a32a08d6612a3133590a70ae9eb568802", func := "loop.example/g00850/laws.FnExactIdxAt", spec := "fnExactIdxAt", unfollowed := true, recurses := true, apart := false }
def FnExactIdxAtSaid : Prop := fnExactIdxAtRow.holds Try.pinned (OpenSpec.ofChange fnExactIdxAtSpec)

/-- ITS FALSE NEIGHBOUR: 'it returns false'. Refute it at one input. -/
def fnExactIdxAtWrong : ChangeSpec := { name := "fnExactIdxAt", fn := fun _ => fun
  | [d1, d2] => { results := [.lit (.bool false)], args := [d1, d2] }
  | _ => none }
def FnExactIdxAtWrongFalsely : Prop := fnExactIdxAtRow.holds Try.pinned (OpenSpec.ofChange fnExactIdxAtWrong)

/-- 'laws.FnExactGoodMove': WHATEVER THE INPUT: true; the input reads as it did. -/
def fnExactGoodMoveSpec : ChangeSpec := { name := "fnExactGoodMove", fn := fun _ => fun
  | [d] => { results := [.lit (.bool true)], args := [d] }
  | _ => none }
def fnExactGoodMoveRow : OpenClaim := { program := "ytkgnhobojeenoaa", sum := "037d09e9e24929bb3d1332a9f1d5ae8a32a08d6612a3133590a70ae9eb568802", func := "loop.example/g00850/laws.FnExactGoodMove", spec := "fnExactGoodMove", inPlace := ["internal/bytealg.IndexByteString"], unfollowed := true, recurses := true, apart := false }
def FnExactGoodMoveSaid : Prop := fnExactGoodMoveRow.holds Try.pinned (OpenSpec.ofChange fnExactGoodMoveSpec)

/-- ITS FALSE NEIGHBOUR: 'it returns false'. Refute it at one input. -/
def fnExactGoodMoveWrong : ChangeSpec := { name := "fnExactGoodMove", fn := fun _ => fun
  | [d] => { results := [.lit (.bool false)], args := [d] }
  | _ => none }
def FnExactGoodMoveWrongFalsely : Prop := fnExactGoodMoveRow.holds Try.pinned (OpenSpec.ofChange fnExactGoodMoveWrong)

/- THE SECOND FORM. 'bulk': how many values and letters a reading holds, each counted each time it is reached (what is shared counts as often as it is met; a slice's spare places count too). A statement '..UptoSaid' is the law's where the arguments, and the package variables that the reading takes, are together of bulk at most 1048576: NARROWER than '..Said'. Prove '..Said' where nothing that the law and all that it calls make is longer than what came in: it says more and counts as full. Else prove '..UptoSaid'. A law counts once. -/
mutual
def uptoBulk {H : Type} : DataW H → Nat
  | .lit (.string bytes) => bytes.length + 1
  | .lit _ => 1
  | .nil => 1
  | .ptr d => uptoBulk d + 1
  | .slice elems spare => uptoBulkAll elems + uptoBulkAll spare + 1
  | .agg parts => uptoBulkAll parts + 1
  | .iface _ d => uptoBulk d + 1
  | .map entries => uptoBulkEntries entries + 1
  | .held _ => 1
def uptoBulkAll {H : Type} : List (DataW H) → Nat
  | [] => 0
  | d :: r => uptoBulk d + uptoBulkAll r
def uptoBulkEntries {H : Type} : List (Lit × DataW H) → Nat
  | [] => 0
  | x :: r => uptoBulkEntry x + uptoBulkEntries r
def uptoBulkEntry {H : Type} : Lit × DataW H → Nat
  | (.string bytes, d) => bytes.length + uptoBulk d + 1
  | (_, d) => uptoBulk d + 1
 end
def uptoSmall : (H : Type) → List (DataW H) → Bool := fun _ ds => decide (uptoBulkAll ds ≤ 1048576)
def OpenSpec.upto (s : _root_.Go.ChangeSpec) : _root_.Go.OpenSpec := { _root_.Go.OpenSpec.ofChange s with cond := some uptoSmall }

/-- 'laws.FnExactIsWithin', WHERE WHAT IT READS IS OF BULK AT MOST 1048576: true; the input reads as it did. -/
def fnExactIsWithinUptoRow : OpenClaim := { program := "ytkgnhobojeenoaa", sum := "037d09e9e24929bb3d1332a9f1d5ae8a32a08d6612a3133590a70ae9eb568802", func := "loop.example/g00850/laws.FnExactIsWithin", spec := "fnExactIsWithin", inPlace := ["internal/bytealg.IndexByteString"], apart := false, narrowed := true }
def FnExactIsWithinUptoSaid : Prop := fnExactIsWithinUptoRow.holds Try.pinned (OpenSpec.upto fnExactIsWithinSpec)

/-- 'laws.FnExactGoodItem', WHERE WHAT IT READS IS OF BULK AT MOST 1048576: true; the input reads as it did. -/
def fnExactGoodItemUptoRow : OpenClaim := { program := "ytkgnhobojeenoaa", sum := "037d09e9e24929bb3d1332a9f1d5ae8a32a08d6612a3133590a70ae9eb568802", func := "loop.example/g00850/laws.FnExactGoodItem", spec := "fnExactGoodItem", inPlace := ["internal/bytealg.IndexByteString"], apart := false, narrowed := true }
def FnExactGoodItemUptoSaid : Prop := fnExactGoodItemUptoRow.holds Try.pinned (OpenSpec.upto fnExactGoodItemSpec)

/-- 'laws.FnExactGoodFeed', WHERE WHAT IT READS IS OF BULK AT MOST 1048576: true; the input reads as it did. -/
def fnExactGoodFeedUptoRow : OpenClaim := { program := "ytkgnhobojeenoaa", sum := "037d09e9e24929bb3d1332a9f1d5ae8a32a08d6612a3133590a70ae9eb568802", func := "loop.example/g00850/laws.FnExactGoodFeed", spec := "fnExactGoodFeed", inPlace := ["internal/bytealg.IndexByteString"], unfollowed := true, recurses := true, apart := false, narrowed := true }
def FnExactGoodFeedUptoSaid : Prop := fnExactGoodFeedUptoRow.holds Try.pinned (OpenSpec.upto fnExactGoodFeedSpec)

/-- 'laws.FnExactGoodTable', WHERE WHAT IT READS IS OF BULK AT MOST 1048576: true; the input reads as it did. -/
def fnExactGoodTableUptoRow : OpenClaim := { program := "ytkgnhobojeenoaa", sum := "037d09e9e24929bb3d1332a9f1d5ae8a32a08d6612a3133590a70ae9eb568802", func := "loop.example/g00850/laws.FnExactGoodTable", spec := "fnExactGoodTable", apart := false, narrowed := true }
def FnExactGoodTableUptoSaid : Prop := fnExactGoodTableUptoRow.holds Try.pinned (OpenSpec.upto fnExactGoodTableSpec)

/-- 'laws.FnExactColAt', WHERE WHAT IT READS IS OF BULK AT MOST 1048576: true; the input reads as it did. -/
def fnExactColAtUptoRow : OpenClaim := { program := "ytkgnhobojeenoaa", sum := "037d09e9e24929bb3d1332a9f1d5ae8a32a08d6612a3133590a70ae9eb568802", func := "loop.example/g00850/laws.FnExactColAt", spec := "fnExactColAt", apart := false, narrowed := true }
def FnExactColAtUptoSaid : Prop := fnExactColAtUptoRow.holds Try.pinned (OpenSpec.upto fnExactColAtSpec)

/-- 'laws.FnExactIdxAt', WHERE WHAT IT READS IS OF BULK AT MOST 1048576: true; the input reads as it did. -/
def fnExactIdxAtUptoRow : OpenClaim := { program := "ytkgnhobojeenoaa", sum := "037d09e9e24929bb3d1332a9f1d5ae8a32a08d6612a3133590a70ae9eb568802", func := "loop.example/g00850/laws.FnExactIdxAt", spec := "fnExactIdxAt", unfollowed := true, recurses := true, apart := false, narrowed := true }
def FnExactIdxAtUptoSaid : Prop := fnExactIdxAtUptoRow.holds Try.pinned (OpenSpec.upto fnExactIdxAtSpec)

/-- 'laws.FnExactGoodMove', WHERE WHAT IT READS IS OF BULK AT MOST 1048576: true; the input reads as it did. -/
def fnExactGoodMoveUptoRow : OpenClaim := { program := "ytkgnhobojeenoaa", sum := "037d09e9e24929bb3d1332a9f1d5ae8a32a08d6612a3133590a70ae9eb568802", func := "loop.example/g00850/laws.FnExactGoodMove", spec := "fnExactGoodMove", inPlace := ["internal/bytealg.IndexByteString"], unfollowed := true, recurses := true, apart := false, narrowed := true }
def FnExactGoodMoveUptoSaid : Prop := fnExactGoodMoveUptoRow.holds Try.pinned (OpenSpec.upto fnExactGoodMoveSpec)

end Rows
end Go.Proofs.Ytkgnhobojeenoaa
