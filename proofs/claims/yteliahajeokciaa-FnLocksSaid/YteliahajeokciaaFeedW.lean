/- Walks: feed items and feeds. -/
import Derived.Test.YteliahajeokciaaFeedM
import Derived.Test.YteliahajeokciaaBaseW
import Derived.Test.YteliahajeokciaaSlicesW
set_option linter.unusedVariables false
set_option linter.unusedSimpArgs false
set_option maxRecDepth 100000
namespace Go.Proofs.Yteliahajeokciaa
open Go Go.AV Go.M
attribute [local irreducible] OpW OpA OpS AWP FSpec ESpec RetOk RvDen Le Ev GuardIs
theorem isNaNInt_spec (t : Int) : FSpec Try.prog 289 [AV.int t] (AV.bool false) := by
  refine spec_of_awp Try.func289 rfl Try.ntmps289 rfl ?_
  refine awp_seq ?_
  refine awp_region ?_
  refine sq_plain rfl rfl rfl (w_assign rfl ev_cb) ?_
  refine sq_nil ?_
  refine awp_seq ?_
  refine awp_region ?_
  refine sq_plain rfl rfl rfl (w_move rfl (ev_tmp rfl)) ?_
  refine sq_plain rfl rfl rfl (w_move rfl (ev_tmp rfl)) ?_
  refine sq_plain rfl rfl rfl (w_neq rfl (ev_tmp rfl) (ev_tmp rfl)) ?_
  refine sq_plain rfl rfl rfl (w_assign rfl (ev_tmp rfl)) ?_
  refine sq_nil ?_
  refine awp_ret ?_
  exact retR rfl (rv_tmp' rfl (by exact congrArg AV.bool (by simp)))
end Go.Proofs.Yteliahajeokciaa
