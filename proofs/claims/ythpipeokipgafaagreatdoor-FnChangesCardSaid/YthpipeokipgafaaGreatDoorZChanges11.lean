/- Texts of the claim, part 11. -/

import Derived.Test.YthpipeokipgafaaGreatDoorZChanges10
set_option linter.defProp false
set_option linter.unusedVariables false
set_option linter.unusedSimpArgs false
set_option maxRecDepth 100000
set_option maxHeartbeats 4000000
namespace Go.Proofs.YthpipeokipgafaaGreatDoor
open Go.PQ
open Go Go.AV Go.M
open Go.ChangeShapes Go.WideShapes Go.ChangeAt Go.RowKit
theorem CR4 {a b : Bool} (h : a = true) (k : b = true) : (a && b) = true := by rw [h, k]; rfl
set_option maxRecDepth 100000 in
theorem By3 : joinedFacts Tryz.pinned.checked.prog 3 Tryz.f3 Rows.fnChangesSpec Rows.fnChangesRow = true := by
  unfold joinedFacts
  repeat' (with_reducible refine CR4 ?_ ?_)
  all_goals (as_aux_lemma => kernel_rfl)
end Go.Proofs.YthpipeokipgafaaGreatDoor
