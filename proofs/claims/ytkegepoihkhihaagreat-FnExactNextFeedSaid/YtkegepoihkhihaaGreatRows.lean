/-
  No cell of these rows narrows 'for every input' (looked for: loops, veiled, ifaces, maps, wideKeys, modest, calm, conditions, laid).
  DERIVED. THE GIVEN ROWS OF THIS SEAT. 6 by the template 'for every input the law returns true; each argument reads behind the call as it read before'; 0 by the template 'total and deterministic' (their statements: YtkegepoihkhihaaGreatTotals.lean).
  GIVEN WITH THE SEED: the statements are not yours to turn. If you find one false, say at which input.
  Laid BY PROGRAM, IN A SANDBOX (cutbox-rows.mjs): the forced cells as the released guide's own fill.sh prints them over the translation de0459e54bfe6b2a… (all of the seat's roots in one cut). By AI agents, Wed Nov 11 2026. No macro, syntax, notation, axiom, sorry.
-/
import Derived.Test.YtkegepoihkhihaaGreatChecked
import GoSem.Claim
import GoSem.ClaimJoined
import GoSem.ClaimMapViews
import Derived.JoinedTies
import Derived.KernelRfl
namespace Go.Proofs.YtkegepoihkhihaaGreat
/- THE CELL 'sum', in the pinned program and in every row, IS THE sha256 OF THE DUMP (.gsa) THAT YtkegepoihkhihaaGreatProg.lean LOADS. Nothing in Lean hashes anything: it is a label: what it is worth is what the hold of that sum in a sandbox is worth. -/
noncomputable def Tryz.pinned : Pinned := { name := "ytkegepoihkhihaagreat", sum := "de0459e54bfe6b2ad2b914b328eab22281b71f0f1a6a27375aed17ef68e42339", checked := Tryz.checked }
namespace Rows
def none {H : Type} : Left H := { results := [], args := [] }

/-- 'laws.FnExactSureTo': WHATEVER THE INPUT: true; the input reads as it did. -/
def fnExactSureToSpec : ChangeSpec := { name := "fnExactSureTo", fn := fun _ => fun
  | [d] => { results := [.lit (.bool true)], args := [d] }
  | _ => none }
def fnExactSureToRow : OpenClaim := { program := "ytkegepoihkhihaagreat", sum := "de0459e54bfe6b2ad2b914b328eab22281b71f0f1a6a27375aed17ef68e42339", func := "loop.example/g00850/laws.FnExactSureTo", spec := "fnExactSureTo", inPlace := ["internal/bytealg.IndexByteString"], unfollowed := true, recurses := true, apart := false }
def FnExactSureToSaid : Prop := fnExactSureToRow.holds Tryz.pinned (OpenSpec.ofChange fnExactSureToSpec)

/-- ITS FALSE NEIGHBOUR: 'it returns false'. Refute it at one input. -/
def fnExactSureToWrong : ChangeSpec := { name := "fnExactSureTo", fn := fun _ => fun
  | [d] => { results := [.lit (.bool false)], args := [d] }
  | _ => none }
def FnExactSureToWrongFalsely : Prop := fnExactSureToRow.holds Tryz.pinned (OpenSpec.ofChange fnExactSureToWrong)

/-- 'laws.FnExactItemsIn': WHATEVER THE INPUT: true; the input reads as it did. -/
def fnExactItemsInSpec : ChangeSpec := { name := "fnExactItemsIn", fn := fun _ => fun
  | [d1, d2, d3, d4] => { results := [.lit (.bool true)], args := [d1, d2, d3, d4] }
  | _ => none }
def fnExactItemsInRow : OpenClaim := { program := "ytkegepoihkhihaagreat", sum := "de0459e54bfe6b2ad2b914b328eab22281b71f0f1a6a27375aed17ef68e42339", func := "loop.example/g00850/laws.FnExactItemsIn", spec := "fnExactItemsIn", inPlace := ["internal/bytealg.IndexByteString"], unfollowed := true, recurses := true, apart := false }
def FnExactItemsInSaid : Prop := fnExactItemsInRow.holds Tryz.pinned (OpenSpec.ofChange fnExactItemsInSpec)

/-- ITS FALSE NEIGHBOUR: 'it returns false'. Refute it at one input. -/
def fnExactItemsInWrong : ChangeSpec := { name := "fnExactItemsIn", fn := fun _ => fun
  | [d1, d2, d3, d4] => { results := [.lit (.bool false)], args := [d1, d2, d3, d4] }
  | _ => none }
def FnExactItemsInWrongFalsely : Prop := fnExactItemsInRow.holds Tryz.pinned (OpenSpec.ofChange fnExactItemsInWrong)

/-- 'laws.FnExactNextFeed': WHATEVER THE INPUT: true; the input reads as it did. -/
def fnExactNextFeedSpec : ChangeSpec := { name := "fnExactNextFeed", fn := fun _ => fun
  | [d1, d2] => { results := [.lit (.bool true)], args := [d1, d2] }
  | _ => none }
def fnExactNextFeedRow : OpenClaim := { program := "ytkegepoihkhihaagreat", sum := "de0459e54bfe6b2ad2b914b328eab22281b71f0f1a6a27375aed17ef68e42339", func := "loop.example/g00850/laws.FnExactNextFeed", spec := "fnExactNextFeed", inPlace := ["internal/bytealg.IndexByteString"], unfollowed := true, recurses := true, apart := false }
def FnExactNextFeedSaid : Prop := fnExactNextFeedRow.holds Tryz.pinned (OpenSpec.ofChange fnExactNextFeedSpec)

/-- ITS FALSE NEIGHBOUR: 'it returns false'. Refute it at one input. -/
def fnExactNextFeedWrong : ChangeSpec := { name := "fnExactNextFeed", fn := fun _ => fun
  | [d1, d2] => { results := [.lit (.bool false)], args := [d1, d2] }
  | _ => none }
def FnExactNextFeedWrongFalsely : Prop := fnExactNextFeedRow.holds Tryz.pinned (OpenSpec.ofChange fnExactNextFeedWrong)

/-- 'laws.FnFeed': WHATEVER THE INPUT: true; the input reads as it did. -/
def fnFeedSpec : ChangeSpec := { name := "fnFeed", fn := fun _ => fun
  | [d] => { results := [.lit (.bool true)], args := [d] }
  | _ => none }
def fnFeedRow : OpenClaim := { program := "ytkegepoihkhihaagreat", sum := "de0459e54bfe6b2ad2b914b328eab22281b71f0f1a6a27375aed17ef68e42339", func := "loop.example/g00850/laws.FnFeed", spec := "fnFeed", inPlace := ["internal/bytealg.IndexByteString"], unfollowed := true, recurses := true, apart := false }
def FnFeedSaid : Prop := fnFeedRow.holds Tryz.pinned (OpenSpec.ofChange fnFeedSpec)

/-- ITS FALSE NEIGHBOUR: 'it returns false'. Refute it at one input. -/
def fnFeedWrong : ChangeSpec := { name := "fnFeed", fn := fun _ => fun
  | [d] => { results := [.lit (.bool false)], args := [d] }
  | _ => none }
def FnFeedWrongFalsely : Prop := fnFeedRow.holds Tryz.pinned (OpenSpec.ofChange fnFeedWrong)

/-- 'laws.FnRefeed': WHATEVER THE INPUT: true; the input reads as it did. -/
def fnRefeedSpec : ChangeSpec := { name := "fnRefeed", fn := fun _ => fun
  | [d] => { results := [.lit (.bool true)], args := [d] }
  | _ => none }
def fnRefeedRow : OpenClaim := { program := "ytkegepoihkhihaagreat", sum := "de0459e54bfe6b2ad2b914b328eab22281b71f0f1a6a27375aed17ef68e42339", func := "loop.example/g00850/laws.FnRefeed", spec := "fnRefeed", inPlace := ["internal/bytealg.IndexByteString"], unfollowed := true, recurses := true, apart := false }
def FnRefeedSaid : Prop := fnRefeedRow.holds Tryz.pinned (OpenSpec.ofChange fnRefeedSpec)

/-- ITS FALSE NEIGHBOUR: 'it returns false'. Refute it at one input. -/
def fnRefeedWrong : ChangeSpec := { name := "fnRefeed", fn := fun _ => fun
  | [d] => { results := [.lit (.bool false)], args := [d] }
  | _ => none }
def FnRefeedWrongFalsely : Prop := fnRefeedRow.holds Tryz.pinned (OpenSpec.ofChange fnRefeedWrong)

/-- 'laws.FnRebuild': WHATEVER THE INPUT: true; the input reads as it did. -/
def fnRebuildSpec : ChangeSpec := { name := "fnRebuild", fn := fun _ => fun
  | [d] => { results := [.lit (.bool true)], args := [d] }
  | _ => none }
def fnRebuildRow : OpenClaim := { program := "ytkegepoihkhihaagreat", sum := "de0459e54bfe6b2ad2b914b328eab22281b71f0f1a6a27375aed17ef68e42339", func := "loop.example/g00850/laws.FnRebuild", spec := "fnRebuild", inPlace := ["internal/bytealg.IndexByteString", "slices.overlaps[loop.example/g00850/impl.Cell]"], unfollowed := true, recurses := true, apart := false }
def FnRebuildSaid : Prop := fnRebuildRow.holds Tryz.pinned (OpenSpec.ofChange fnRebuildSpec)

/-- ITS FALSE NEIGHBOUR: 'it returns false'. Refute it at one input. -/
def fnRebuildWrong : ChangeSpec := { name := "fnRebuild", fn := fun _ => fun
  | [d] => { results := [.lit (.bool false)], args := [d] }
  | _ => none }
def FnRebuildWrongFalsely : Prop := fnRebuildRow.holds Tryz.pinned (OpenSpec.ofChange fnRebuildWrong)

/- THE SECOND FORM. 'bulk': how many values and letters a reading holds, each counted each time it is reached (what is shared counts as often as it is met; a slice's spare places count too). A statement '..UptoSaid' is the law's where the arguments, and the package variables that the reading takes, are together of bulk at most 1048576: NARROWER than '..Said'. Prove '..Said' where nothing that the law and all that it calls make is longer than what came in: it says more and counts as full. Else prove '..UptoSaid'. A law counts once. -/
mutual
def uptoBulk {H : Type} : DataW H → Nat
  | .lit (.string bytes) => bytes.length + 1
  | .lit _ => 1
  | .nil => 1
  | .ptr d => uptoBulk d + 1
  | .slice elems spare => uptoBulkAll elems + uptoBulkAll spare + 1
  | .agg parts => uptoBulkAll parts + 1
  | .iface _ d => uptoBulk d + 1
  | .map entries => uptoBulkEntries entries + 1
  | .held _ => 1
def uptoBulkAll {H : Type} : List (DataW H) → Nat
  | [] => 0
  | d :: r => uptoBulk d + uptoBulkAll r
def uptoBulkEntries {H : Type} : List (Lit × DataW H) → Nat
  | [] => 0
  | x :: r => uptoBulkEntry x + uptoBulkEntries r
def uptoBulkEntry {H : Type} : Lit × DataW H → Nat
  | (.string bytes, d) => bytes.length + uptoBulk d + 1
  | (_, d) => uptoBulk d + 1
 end
def uptoSmall : (H : Type) → List (DataW H) → Bool := fun _ ds => decide (uptoBulkAll ds ≤ 1048576)
def OpenSpec.upto (s : _root_.Go.ChangeSpec) : _root_.Go.OpenSpec := { _root_.Go.OpenSpec.ofChange s with cond := some uptoSmall }

/-- 'laws.FnExactSureTo', WHERE WHAT IT READS IS OF BULK AT MOST 1048576: true; the input reads as it did. -/
def fnExactSureToUptoRow : OpenClaim := { program := "ytkegepoihkhihaagreat", sum := "de0459e54bfe6b2ad2b914b328eab22281b71f0f1a6a27375aed17ef68e42339", func := "loop.example/g00850/laws.FnExactSureTo", spec := "fnExactSureTo", inPlace := ["internal/bytealg.IndexByteString"], unfollowed := true, recurses := true, apart := false, narrowed := true }
def FnExactSureToUptoSaid : Prop := fnExactSureToUptoRow.holds Tryz.pinned (OpenSpec.upto fnExactSureToSpec)

/-- 'laws.FnExactItemsIn', WHERE WHAT IT READS IS OF BULK AT MOST 1048576: true; the input reads as it did. -/
def fnExactItemsInUptoRow : OpenClaim := { program := "ytkegepoihkhihaagreat", sum := "de0459e54bfe6b2ad2b914b328eab22281b71f0f1a6a27375aed17ef68e42339", func := "loop.example/g00850/laws.FnExactItemsIn", spec := "fnExactItemsIn", inPlace := ["internal/bytealg.IndexByteString"], unfollowed := true, recurses := true, apart := false, narrowed := true }
def FnExactItemsInUptoSaid : Prop := fnExactItemsInUptoRow.holds Tryz.pinned (OpenSpec.upto fnExactItemsInSpec)

/-- 'laws.FnExactNextFeed', WHERE WHAT IT READS IS OF BULK AT MOST 1048576: true; the input reads as it did. -/
def fnExactNextFeedUptoRow : OpenClaim := { program := "ytkegepoihkhihaagreat", sum := "de0459e54bfe6b2ad2b914b328eab22281b71f0f1a6a27375aed17ef68e42339", func := "loop.example/g00850/laws.FnExactNextFeed", spec := "fnExactNextFeed", inPlace := ["internal/bytealg.IndexByteString"], unfollowed := true, recurses := true, apart := false, narrowed := true }
def FnExactNextFeedUptoSaid : Prop := fnExactNextFeedUptoRow.holds Tryz.pinned (OpenSpec.upto fnExactNextFeedSpec)

/-- 'laws.FnFeed', WHERE WHAT IT READS IS OF BULK AT MOST 1048576: true; the input reads as it did. -/
def fnFeedUptoRow : OpenClaim := { program := "ytkegepoihkhihaagreat", sum := "de0459e54bfe6b2ad2b914b328eab22281b71f0f1a6a27375aed17ef68e42339", func := "loop.example/g00850/laws.FnFeed", spec := "fnFeed", inPlace := ["internal/bytealg.IndexByteString"], unfollowed := true, recurses := true, apart := false, narrowed := true }
def FnFeedUptoSaid : Prop := fnFeedUptoRow.holds Tryz.pinned (OpenSpec.upto fnFeedSpec)

/-- 'laws.FnRefeed', WHERE WHAT IT READS IS OF BULK AT MOST 1048576: true; the input reads as it did. -/
def fnRefeedUptoRow : OpenClaim := { program := "ytkegepoihkhihaagreat", sum := "de0459e54bfe6b2ad2b914b328eab22281b71f0f1a6a27375aed17ef68e42339", func := "loop.example/g00850/laws.FnRefeed", spec := "fnRefeed", inPlace := ["internal/bytealg.IndexByteString"], unfollowed := true, recurses := true, apart := false, narrowed := true }
def FnRefeedUptoSaid : Prop := fnRefeedUptoRow.holds Tryz.pinned (OpenSpec.upto fnRefeedSpec)

/-- 'laws.FnRebuild', WHERE WHAT IT READS IS OF BULK AT MOST 1048576: true; the input reads as it did. -/
def fnRebuildUptoRow : OpenClaim := { program := "ytkegepoihkhihaagreat", sum := "de0459e54bfe6b2ad2b914b328eab22281b71f0f1a6a27375aed17ef68e42339", func := "loop.example/g00850/laws.FnRebuild", spec := "fnRebuild", inPlace := ["internal/bytealg.IndexByteString", "slices.overlaps[loop.example/g00850/impl.Cell]"], unfollowed := true, recurses := true, apart := false, narrowed := true }
def FnRebuildUptoSaid : Prop := fnRebuildUptoRow.holds Tryz.pinned (OpenSpec.upto fnRebuildSpec)

end Rows
end Go.Proofs.YtkegepoihkhihaaGreat
