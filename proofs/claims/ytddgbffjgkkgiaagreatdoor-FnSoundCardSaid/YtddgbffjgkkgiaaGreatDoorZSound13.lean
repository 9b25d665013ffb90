/- Texts of the claim, part 13. -/

import Derived.Test.YtddgbffjgkkgiaaGreatDoorZSound12
set_option linter.defProp false
set_option linter.unusedVariables false
set_option linter.unusedSimpArgs false
set_option maxRecDepth 100000
set_option maxHeartbeats 4000000
namespace Go.Proofs.YtddgbffjgkkgiaaGreatDoor
open Go.PQ
open Go Go.AV Go.M
open Go.ChangeShapes Go.WideShapes Go.ChangeAt Go.RowKit
theorem DI3 {a b : Bool} (h : a = true) (k : b = true) : (a && b) = true := by rw [h, k]; rfl
set_option maxRecDepth 100000 in
theorem Cj7 : joinedFacts Tryz.pinned.checked.prog 3 Tryz.f3 Rows.fnSoundSpec Rows.fnSoundRow = true := by
  unfold joinedFacts
  repeat' (with_reducible refine DI3 ?_ ?_)
  all_goals (as_aux_lemma => kernel_rfl)
end Go.Proofs.YtddgbffjgkkgiaaGreatDoor
