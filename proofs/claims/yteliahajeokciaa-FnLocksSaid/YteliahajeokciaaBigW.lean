/- Walks: what the statements ask of their codes. -/
import Derived.Test.YteliahajeokciaaTypesM
import Derived.Test.YteliahajeokciaaDrawM
import Derived.Test.YteliahajeokciaaRows
set_option linter.unusedVariables false
set_option linter.unusedSimpArgs false
set_option maxRecDepth 100000
namespace Go.Proofs.Yteliahajeokciaa
open Go Go.AV Go.M
attribute [local irreducible] OpW OpA OpS AWP FSpec ESpec GSpec OpE RetOk RetOkG RvDen Le Ev GuardIs SrcIs
theorem big_spec (code more : List Int) : FSpec Try.prog 12 [bytesI code, bytesI more] (AV.bool (bigB code more)) := by
  refine spec_of_awp Try.func12 rfl Try.ntmps12 rfl ?_
  refine awp_len (t := 0) rfl fun hl0 => ?_
  try simp only [List.length_map] at hl0
  refine awp_len (t := 1) rfl fun hl1 => ?_
  try simp only [List.length_map] at hl1
  refine awp_seq ?_
  refine awp_region ?_
  refine sq_plain rfl rfl rfl (w_assign rfl ev_cb) ?_
  refine sq_nil ?_
  refine awp_seq ?_
  refine awp_region ?_
  refine sq_plain rfl rfl rfl (w_move rfl (ev_tmp rfl)) ?_
  refine sq_plain rfl rfl rfl (w_llen rfl Try.underlying22 (ev_tmp rfl)) ?_
  refine sq_plain rfl rfl rfl (w_gtr rfl (ev_tmp rfl) ev_ci) ?_
  refine sq_plain rfl rfl rfl (w_move rfl (ev_tmp rfl)) ?_
  refine sq_grd rfl rfl (guard_f rfl rfl rfl) (fun hc => w_move rfl (ev_tmp rfl)) ?_
  refine sq_grd rfl rfl (guard_f rfl rfl rfl) (fun hc => w_llen rfl Try.underlying22 (ev_whn rfl hc)) ?_
  refine sq_grd rfl rfl (guard_f rfl rfl rfl) (fun hc => w_move rfl (ev_tmp rfl)) ?_
  refine sq_grd rfl rfl (guard_f rfl rfl rfl) (fun hc => w_llen rfl Try.underlying22 (ev_whn rfl hc)) ?_
  refine sq_grd rfl rfl (guard_f rfl rfl rfl) (fun hc => w_subi rfl ev_ci (ev_whn rfl hc) (by simp only [List.length_map]; omega)) ?_
  refine sq_grd rfl rfl (guard_f rfl rfl rfl) (fun hc => w_gtr rfl (ev_whn rfl hc) (ev_whn rfl hc)) ?_
  refine sq_plain rfl rfl rfl (w_or rfl (ev_tmp rfl) (evif_w rfl)) ?_
  refine sq_plain rfl rfl rfl (w_assign rfl (ev_tmp rfl)) ?_
  refine sq_nil ?_
  refine awp_ret ?_
  exact retR rfl (rv_tmp' rfl (by (refine congrArg AV.bool ?_; unfold bigB; simp only [List.length_map])))
end Go.Proofs.Yteliahajeokciaa
