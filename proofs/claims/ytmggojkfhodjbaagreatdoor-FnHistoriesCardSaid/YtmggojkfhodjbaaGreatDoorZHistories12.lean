/- Texts of the claim, part 12. -/
import Derived.Test.YtmggojkfhodjbaaGreatDoorZHistories11
set_option maxRecDepth 100000
set_option maxHeartbeats 4000000
namespace Go.Proofs.YtmggojkfhodjbaaGreatDoor
open Go.PQ
open Go Go.AV Go.M
open Go.ChangeShapes Go.WideShapes Go.ChangeAt Go.RowKit
theorem CN4 {a b : Bool} (h : a = true) (k : b = true) : (a && b) = true := by rw [h, k]; rfl
theorem Bv6 : joinedFacts Tryz.pinned.checked.prog 3 Tryz.f3 Rows.fnHistoriesSpec Rows.fnHistoriesRow = true := by
  unfold joinedFacts
  repeat' (with_reducible refine CN4 ?_ ?_)
  all_goals (as_aux_lemma => kernel_rfl)
end Go.Proofs.YtmggojkfhodjbaaGreatDoor
