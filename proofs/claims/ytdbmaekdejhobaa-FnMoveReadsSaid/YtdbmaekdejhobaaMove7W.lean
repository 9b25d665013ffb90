/- Walks: a step of a migration, the reference. -/
import Derived.Test.YtdbmaekdejhobaaMove7M
import Derived.Test.YtdbmaekdejhobaaMove6W
set_option linter.unusedVariables false
set_option linter.unusedSimpArgs false
set_option maxRecDepth 100000
namespace Go.Proofs.Ytdbmaekdejhobaa
open Go Go.AV Go.M
attribute [local irreducible] OpW OpA OpS AWP FSpec ESpec GSpec OpE RetOk RetOkG RvDen Le Ev GuardIs SrcIs
theorem l22Put_own (m : TMove) (x : Value × Value) (w : TWrite) (hs : m.size ≤ 131072) (hw : w.size ≤ 131072) : GSpec Try.prog 164 [AV.agg (TMove.ocs m x), AV.agg w.cs] (TMove.ow m x) (fun _ : Value × Value => True) (fun y => TMove.ow (putMS m w).1 y) (fun y => AV.tup [AV.agg (TMove.ocs (putMS m w).1 y), AV.bool (putMS m w).2]) := by
  unfold TMove.size at hs
  have hz : sizeL TWrite.size [w] ≤ 262144 := by unfold sizeL; simp; omega
  refine gspec_of_awp Try.func164 rfl Try.ntmps164 rfl ?_
  refine awp_seq ?_
  refine awp_region ?_
  refine sq_box rfl rfl rfl rfl (ev_tmp rfl) ?_
  intro b2
  refine sq_box rfl rfl rfl rfl (ev_tmp rfl) ?_
  intro b3
  refine sq_alloc rfl rfl rfl rfl Try.zeroValue27 rfl ?_
  intro b4
  refine sq_plain rfl rfl rfl (w_assign rfl ev_cb) ?_
  refine sq_nil ?_
  refine awp_seq ?_
  refine awp_region ?_
  refine sq_plain rfl rfl rfl (w_fldBn 3 rfl Try.underlying27 rfl Try.sizeOf23 (ev_tmp rfl) rfl) ?_
  refine sq_plain rfl rfl rfl (w_loadB1 2 rfl (ev_tmp rfl) rfl Try.isAgg23 rfl) ?_
  refine sq_plain rfl rfl rfl (w_loadA 1 rfl (ev_tmp rfl) rfl Try.isAgg37 Try.sizeOf37 rfl) ?_
  refine sq_plain rfl rfl rfl (w_bslice rfl Try.underlying23 Try.sizeOf37 Try.zeroValue37 rfl rfl rfl rfl (bp_cons (ev_tmp rfl) (as_agg _) bp_nil) rfl rfl) ?_
  refine sq_callGB [] rfl rfl rfl rfl Try.call22 rfl (putRowsS_own m.From [w] (by omega) hz) rfl (evlb_cons (evb_arr 3 (ev_tmp rfl) rfl) (evlb_cons (evb (ev_tmp rfl)) evlb_nil)) (by first | exact flatO_nil | (intro _; exact flatO_nil) | (intro _; first | exact flat_is _ | exact flat_ik _ _ | exact flat_bool _ | exact flat_str _ | exact flat_nils) | (intro _; refine flat_tup ?_; (repeat (first | exact flatl_nil | (refine flatl_cons (by first | (first | exact flat_is _ | exact flat_ik _ _ | exact flat_bool _ | exact flat_str _ | exact flat_nils) | (refine flat_agg ?_; (repeat (first | exact flatl_nil | (refine flatl_cons (by first | exact flat_is _ | exact flat_ik _ _ | exact flat_bool _ | exact flat_str _ | exact flat_nils) ?_))))) ?_))); done) | (intro _; refine flat_agg ?_; (repeat (first | exact flatl_nil | (refine flatl_cons (by first | exact flat_is _ | exact flat_ik _ _ | exact flat_bool _ | exact flat_str _ | exact flat_nils) ?_))); done) | ((repeat (first | exact flatO_nil | (refine flatO_cons (flatO_box ?_) ?_; (repeat (first | exact flatl_nil | (refine flatl_cons (by first | exact flat_is _ | exact flat_ik _ _ | exact flat_bool _ | exact flat_str _ | exact flat_nils) ?_)))) | (refine flatO_cons (flatO_arr ?_) ?_; (repeat (first | exact flate_nil | (refine flate_map (fun _ => ?_); (first | exact TWrite.flat _ | exact TFeedItem.flat _ | exact TIdx.flat _ | exact TVer.flat _ | (repeat (first | exact flatl_nil | (refine flatl_cons (by first | exact flat_is _ | exact flat_ik _ _ | exact flat_bool _ | exact flat_str _ | exact flat_nils) ?_))))) | (refine flate_rep ?_; (first | exact TWrite.flat _ | exact TFeedItem.flat _ | exact TIdx.flat _ | exact TVer.flat _ | (repeat (first | exact flatl_nil | (refine flatl_cons (by first | exact flat_is _ | exact flat_ik _ _ | exact flat_bool _ | exact flat_str _ | exact flat_nils) ?_))))) | (refine flate_cons ?_ ?_; (first | exact TWrite.flat _ | exact TFeedItem.flat _ | exact TIdx.flat _ | exact TVer.flat _ | (repeat (first | exact flatl_nil | (refine flatl_cons (by first | exact flat_is _ | exact flat_ik _ _ | exact flat_bool _ | exact flat_str _ | exact flat_nils) ?_))))) | refine flate_app ?_ ?_))))); done) | (intro _; (repeat (first | exact flatO_nil | (refine flatO_cons (flatO_box ?_) ?_; (repeat (first | exact flatl_nil | (refine flatl_cons (by first | exact flat_is _ | exact flat_ik _ _ | exact flat_bool _ | exact flat_str _ | exact flat_nils) ?_)))) | (refine flatO_cons (flatO_arr ?_) ?_; (repeat (first | exact flate_nil | (refine flate_map (fun _ => ?_); (first | exact TWrite.flat _ | exact TFeedItem.flat _ | exact TIdx.flat _ | exact TVer.flat _ | (repeat (first | exact flatl_nil | (refine flatl_cons (by first | exact flat_is _ | exact flat_ik _ _ | exact flat_bool _ | exact flat_str _ | exact flat_nils) ?_))))) | (refine flate_rep ?_; (first | exact TWrite.flat _ | exact TFeedItem.flat _ | exact TIdx.flat _ | exact TVer.flat _ | (repeat (first | exact flatl_nil | (refine flatl_cons (by first | exact flat_is _ | exact flat_ik _ _ | exact flat_bool _ | exact flat_str _ | exact flat_nils) ?_))))) | (refine flate_cons ?_ ?_; (first | exact TWrite.flat _ | exact TFeedItem.flat _ | exact TIdx.flat _ | exact TVer.flat _ | (repeat (first | exact flatl_nil | (refine flatl_cons (by first | exact flat_is _ | exact flat_ik _ _ | exact flat_bool _ | exact flat_str _ | exact flat_nils) ?_))))) | refine flate_app ?_ ?_))))); done)) (by first | exact flatO_nil | (intro _; exact flatO_nil) | (intro _; first | exact flat_is _ | exact flat_ik _ _ | exact flat_bool _ | exact flat_str _ | exact flat_nils) | (intro _; refine flat_tup ?_; (repeat (first | exact flatl_nil | (refine flatl_cons (by first | (first | exact flat_is _ | exact flat_ik _ _ | exact flat_bool _ | exact flat_str _ | exact flat_nils) | (refine flat_agg ?_; (repeat (first | exact flatl_nil | (refine flatl_cons (by first | exact flat_is _ | exact flat_ik _ _ | exact flat_bool _ | exact flat_str _ | exact flat_nils) ?_))))) ?_))); done) | (intro _; refine flat_agg ?_; (repeat (first | exact flatl_nil | (refine flatl_cons (by first | exact flat_is _ | exact flat_ik _ _ | exact flat_bool _ | exact flat_str _ | exact flat_nils) ?_))); done) | ((repeat (first | exact flatO_nil | (refine flatO_cons (flatO_box ?_) ?_; (repeat (first | exact flatl_nil | (refine flatl_cons (by first | exact flat_is _ | exact flat_ik _ _ | exact flat_bool _ | exact flat_str _ | exact flat_nils) ?_)))) | (refine flatO_cons (flatO_arr ?_) ?_; (repeat (first | exact flate_nil | (refine flate_map (fun _ => ?_); (first | exact TWrite.flat _ | exact TFeedItem.flat _ | exact TIdx.flat _ | exact TVer.flat _ | (repeat (first | exact flatl_nil | (refine flatl_cons (by first | exact flat_is _ | exact flat_ik _ _ | exact flat_bool _ | exact flat_str _ | exact flat_nils) ?_))))) | (refine flate_rep ?_; (first | exact TWrite.flat _ | exact TFeedItem.flat _ | exact TIdx.flat _ | exact TVer.flat _ | (repeat (first | exact flatl_nil | (refine flatl_cons (by first | exact flat_is _ | exact flat_ik _ _ | exact flat_bool _ | exact flat_str _ | exact flat_nils) ?_))))) | (refine flate_cons ?_ ?_; (first | exact TWrite.flat _ | exact TFeedItem.flat _ | exact TIdx.flat _ | exact TVer.flat _ | (repeat (first | exact flatl_nil | (refine flatl_cons (by first | exact flat_is _ | exact flat_ik _ _ | exact flat_bool _ | exact flat_str _ | exact flat_nils) ?_))))) | refine flate_app ?_ ?_))))); done) | (intro _; (repeat (first | exact flatO_nil | (refine flatO_cons (flatO_box ?_) ?_; (repeat (first | exact flatl_nil | (refine flatl_cons (by first | exact flat_is _ | exact flat_ik _ _ | exact flat_bool _ | exact flat_str _ | exact flat_nils) ?_)))) | (refine flatO_cons (flatO_arr ?_) ?_; (repeat (first | exact flate_nil | (refine flate_map (fun _ => ?_); (first | exact TWrite.flat _ | exact TFeedItem.flat _ | exact TIdx.flat _ | exact TVer.flat _ | (repeat (first | exact flatl_nil | (refine flatl_cons (by first | exact flat_is _ | exact flat_ik _ _ | exact flat_bool _ | exact flat_str _ | exact flat_nils) ?_))))) | (refine flate_rep ?_; (first | exact TWrite.flat _ | exact TFeedItem.flat _ | exact TIdx.flat _ | exact TVer.flat _ | (repeat (first | exact flatl_nil | (refine flatl_cons (by first | exact flat_is _ | exact flat_ik _ _ | exact flat_bool _ | exact flat_str _ | exact flat_nils) ?_))))) | (refine flate_cons ?_ ?_; (first | exact TWrite.flat _ | exact TFeedItem.flat _ | exact TIdx.flat _ | exact TVer.flat _ | (repeat (first | exact flatl_nil | (refine flatl_cons (by first | exact flat_is _ | exact flat_ik _ _ | exact flat_bool _ | exact flat_str _ | exact flat_nils) ?_))))) | refine flate_app ?_ ?_))))); done)) (by first | exact flatO_nil | (intro _; exact flatO_nil) | (intro _; first | exact flat_is _ | exact flat_ik _ _ | exact flat_bool _ | exact flat_str _ | exact flat_nils) | (intro _; refine flat_tup ?_; (repeat (first | exact flatl_nil | (refine flatl_cons (by first | (first | exact flat_is _ | exact flat_ik _ _ | exact flat_bool _ | exact flat_str _ | exact flat_nils) | (refine flat_agg ?_; (repeat (first | exact flatl_nil | (refine flatl_cons (by first | exact flat_is _ | exact flat_ik _ _ | exact flat_bool _ | exact flat_str _ | exact flat_nils) ?_))))) ?_))); done) | (intro _; refine flat_agg ?_; (repeat (first | exact flatl_nil | (refine flatl_cons (by first | exact flat_is _ | exact flat_ik _ _ | exact flat_bool _ | exact flat_str _ | exact flat_nils) ?_))); done) | ((repeat (first | exact flatO_nil | (refine flatO_cons (flatO_box ?_) ?_; (repeat (first | exact flatl_nil | (refine flatl_cons (by first | exact flat_is _ | exact flat_ik _ _ | exact flat_bool _ | exact flat_str _ | exact flat_nils) ?_)))) | (refine flatO_cons (flatO_arr ?_) ?_; (repeat (first | exact flate_nil | (refine flate_map (fun _ => ?_); (first | exact TWrite.flat _ | exact TFeedItem.flat _ | exact TIdx.flat _ | exact TVer.flat _ | (repeat (first | exact flatl_nil | (refine flatl_cons (by first | exact flat_is _ | exact flat_ik _ _ | exact flat_bool _ | exact flat_str _ | exact flat_nils) ?_))))) | (refine flate_rep ?_; (first | exact TWrite.flat _ | exact TFeedItem.flat _ | exact TIdx.flat _ | exact TVer.flat _ | (repeat (first | exact flatl_nil | (refine flatl_cons (by first | exact flat_is _ | exact flat_ik _ _ | exact flat_bool _ | exact flat_str _ | exact flat_nils) ?_))))) | (refine flate_cons ?_ ?_; (first | exact TWrite.flat _ | exact TFeedItem.flat _ | exact TIdx.flat _ | exact TVer.flat _ | (repeat (first | exact flatl_nil | (refine flatl_cons (by first | exact flat_is _ | exact flat_ik _ _ | exact flat_bool _ | exact flat_str _ | exact flat_nils) ?_))))) | refine flate_app ?_ ?_))))); done) | (intro _; (repeat (first | exact flatO_nil | (refine flatO_cons (flatO_box ?_) ?_; (repeat (first | exact flatl_nil | (refine flatl_cons (by first | exact flat_is _ | exact flat_ik _ _ | exact flat_bool _ | exact flat_str _ | exact flat_nils) ?_)))) | (refine flatO_cons (flatO_arr ?_) ?_; (repeat (first | exact flate_nil | (refine flate_map (fun _ => ?_); (first | exact TWrite.flat _ | exact TFeedItem.flat _ | exact TIdx.flat _ | exact TVer.flat _ | (repeat (first | exact flatl_nil | (refine flatl_cons (by first | exact flat_is _ | exact flat_ik _ _ | exact flat_bool _ | exact flat_str _ | exact flat_nils) ?_))))) | (refine flate_rep ?_; (first | exact TWrite.flat _ | exact TFeedItem.flat _ | exact TIdx.flat _ | exact TVer.flat _ | (repeat (first | exact flatl_nil | (refine flatl_cons (by first | exact flat_is _ | exact flat_ik _ _ | exact flat_bool _ | exact flat_str _ | exact flat_nils) ?_))))) | (refine flate_cons ?_ ?_; (first | exact TWrite.flat _ | exact TFeedItem.flat _ | exact TIdx.flat _ | exact TVer.flat _ | (repeat (first | exact flatl_nil | (refine flatl_cons (by first | exact flat_is _ | exact flat_ik _ _ | exact flat_bool _ | exact flat_str _ | exact flat_nils) ?_))))) | refine flate_app ?_ ?_))))); done)) ?_
  intro x16 ok16
  refine sq_plain rfl rfl rfl (w_move rfl (ev_tmp rfl)) ?_
  refine sq_plain rfl rfl rfl (w_extract rfl (ev_tmp rfl) rfl) ?_
  refine sq_plain rfl rfl rfl (w_extract rfl (ev_tmp rfl) rfl) ?_
  refine sq_plain rfl rfl rfl (w_assign rfl (ev_tmp rfl)) ?_
  refine sq_plain rfl rfl rfl (w_assign rfl (ev_tmp rfl)) ?_
  refine sq_nil ?_
  refine awp_seq ?_
  refine awp_region ?_
  refine sq_plain rfl rfl rfl (w_fldBn 4 rfl Try.underlying27 rfl Try.sizeOf23 (ev_tmp rfl) rfl) ?_
  refine sq_plain rfl rfl rfl (w_loadB1 3 rfl (ev_tmp rfl) rfl Try.isAgg23 rfl) ?_
  refine sq_plain rfl rfl rfl (w_loadA 2 rfl (ev_tmp rfl) rfl Try.isAgg37 Try.sizeOf37 rfl) ?_
  refine sq_plain rfl rfl rfl (w_bslice rfl Try.underlying23 Try.sizeOf37 Try.zeroValue37 rfl rfl rfl rfl (bp_cons (ev_tmp rfl) (as_agg _) bp_nil) rfl rfl) ?_
  refine sq_callGB [] rfl rfl rfl rfl Try.call22 rfl (putRowsS_own m.To [w] (by omega) hz) rfl (evlb_cons (evb_arr 5 (ev_tmp rfl) rfl) (evlb_cons (evb (ev_tmp rfl)) evlb_nil)) (by first | exact flatO_nil | (intro _; exact flatO_nil) | (intro _; first | exact flat_is _ | exact flat_ik _ _ | exact flat_bool _ | exact flat_str _ | exact flat_nils) | (intro _; refine flat_tup ?_; (repeat (first | exact flatl_nil | (refine flatl_cons (by first | (first | exact flat_is _ | exact flat_ik _ _ | exact flat_bool _ | exact flat_str _ | exact flat_nils) | (refine flat_agg ?_; (repeat (first | exact flatl_nil | (refine flatl_cons (by first | exact flat_is _ | exact flat_ik _ _ | exact flat_bool _ | exact flat_str _ | exact flat_nils) ?_))))) ?_))); done) | (intro _; refine flat_agg ?_; (repeat (first | exact flatl_nil | (refine flatl_cons (by first | exact flat_is _ | exact flat_ik _ _ | exact flat_bool _ | exact flat_str _ | exact flat_nils) ?_))); done) | ((repeat (first | exact flatO_nil | (refine flatO_cons (flatO_box ?_) ?_; (repeat (first | exact flatl_nil | (refine flatl_cons (by first | exact flat_is _ | exact flat_ik _ _ | exact flat_bool _ | exact flat_str _ | exact flat_nils) ?_)))) | (refine flatO_cons (flatO_arr ?_) ?_; (repeat (first | exact flate_nil | (refine flate_map (fun _ => ?_); (first | exact TWrite.flat _ | exact TFeedItem.flat _ | exact TIdx.flat _ | exact TVer.flat _ | (repeat (first | exact flatl_nil | (refine flatl_cons (by first | exact flat_is _ | exact flat_ik _ _ | exact flat_bool _ | exact flat_str _ | exact flat_nils) ?_))))) | (refine flate_rep ?_; (first | exact TWrite.flat _ | exact TFeedItem.flat _ | exact TIdx.flat _ | exact TVer.flat _ | (repeat (first | exact flatl_nil | (refine flatl_cons (by first | exact flat_is _ | exact flat_ik _ _ | exact flat_bool _ | exact flat_str _ | exact flat_nils) ?_))))) | (refine flate_cons ?_ ?_; (first | exact TWrite.flat _ | exact TFeedItem.flat _ | exact TIdx.flat _ | exact TVer.flat _ | (repeat (first | exact flatl_nil | (refine flatl_cons (by first | exact flat_is _ | exact flat_ik _ _ | exact flat_bool _ | exact flat_str _ | exact flat_nils) ?_))))) | refine flate_app ?_ ?_))))); done) | (intro _; (repeat (first | exact flatO_nil | (refine flatO_cons (flatO_box ?_) ?_; (repeat (first | exact flatl_nil | (refine flatl_cons (by first | exact flat_is _ | exact flat_ik _ _ | exact flat_bool _ | exact flat_str _ | exact flat_nils) ?_)))) | (refine flatO_cons (flatO_arr ?_) ?_; (repeat (first | exact flate_nil | (refine flate_map (fun _ => ?_); (first | exact TWrite.flat _ | exact TFeedItem.flat _ | exact TIdx.flat _ | exact TVer.flat _ | (repeat (first | exact flatl_nil | (refine flatl_cons (by first | exact flat_is _ | exact flat_ik _ _ | exact flat_bool _ | exact flat_str _ | exact flat_nils) ?_))))) | (refine flate_rep ?_; (first | exact TWrite.flat _ | exact TFeedItem.flat _ | exact TIdx.flat _ | exact TVer.flat _ | (repeat (first | exact flatl_nil | (refine flatl_cons (by first | exact flat_is _ | exact flat_ik _ _ | exact flat_bool _ | exact flat_str _ | exact flat_nils) ?_))))) | (refine flate_cons ?_ ?_; (first | exact TWrite.flat _ | exact TFeedItem.flat _ | exact TIdx.flat _ | exact TVer.flat _ | (repeat (first | exact flatl_nil | (refine flatl_cons (by first | exact flat_is _ | exact flat_ik _ _ | exact flat_bool _ | exact flat_str _ | exact flat_nils) ?_))))) | refine flate_app ?_ ?_))))); done)) (by first | exact flatO_nil | (intro _; exact flatO_nil) | (intro _; first | exact flat_is _ | exact flat_ik _ _ | exact flat_bool _ | exact flat_str _ | exact flat_nils) | (intro _; refine flat_tup ?_; (repeat (first | exact flatl_nil | (refine flatl_cons (by first | (first | exact flat_is _ | exact flat_ik _ _ | exact flat_bool _ | exact flat_str _ | exact flat_nils) | (refine flat_agg ?_; (repeat (first | exact flatl_nil | (refine flatl_cons (by first | exact flat_is _ | exact flat_ik _ _ | exact flat_bool _ | exact flat_str _ | exact flat_nils) ?_))))) ?_))); done) | (intro _; refine flat_agg ?_; (repeat (first | exact flatl_nil | (refine flatl_cons (by first | exact flat_is _ | exact flat_ik _ _ | exact flat_bool _ | exact flat_str _ | exact flat_nils) ?_))); done) | ((repeat (first | exact flatO_nil | (refine flatO_cons (flatO_box ?_) ?_; (repeat (first | exact flatl_nil | (refine flatl_cons (by first | exact flat_is _ | exact flat_ik _ _ | exact flat_bool _ | exact flat_str _ | exact flat_nils) ?_)))) | (refine flatO_cons (flatO_arr ?_) ?_; (repeat (first | exact flate_nil | (refine flate_map (fun _ => ?_); (first | exact TWrite.flat _ | exact TFeedItem.flat _ | exact TIdx.flat _ | exact TVer.flat _ | (repeat (first | exact flatl_nil | (refine flatl_cons (by first | exact flat_is _ | exact flat_ik _ _ | exact flat_bool _ | exact flat_str _ | exact flat_nils) ?_))))) | (refine flate_rep ?_; (first | exact TWrite.flat _ | exact TFeedItem.flat _ | exact TIdx.flat _ | exact TVer.flat _ | (repeat (first | exact flatl_nil | (refine flatl_cons (by first | exact flat_is _ | exact flat_ik _ _ | exact flat_bool _ | exact flat_str _ | exact flat_nils) ?_))))) | (refine flate_cons ?_ ?_; (first | exact TWrite.flat _ | exact TFeedItem.flat _ | exact TIdx.flat _ | exact TVer.flat _ | (repeat (first | exact flatl_nil | (refine flatl_cons (by first | exact flat_is _ | exact flat_ik _ _ | exact flat_bool _ | exact flat_str _ | exact flat_nils) ?_))))) | refine flate_app ?_ ?_))))); done) | (intro _; (repeat (first | exact flatO_nil | (refine flatO_cons (flatO_box ?_) ?_; (repeat (first | exact flatl_nil | (refine flatl_cons (by first | exact flat_is _ | exact flat_ik _ _ | exact flat_bool _ | exact flat_str _ | exact flat_nils) ?_)))) | (refine flatO_cons (flatO_arr ?_) ?_; (repeat (first | exact flate_nil | (refine flate_map (fun _ => ?_); (first | exact TWrite.flat _ | exact TFeedItem.flat _ | exact TIdx.flat _ | exact TVer.flat _ | (repeat (first | exact flatl_nil | (refine flatl_cons (by first | exact flat_is _ | exact flat_ik _ _ | exact flat_bool _ | exact flat_str _ | exact flat_nils) ?_))))) | (refine flate_rep ?_; (first | exact TWrite.flat _ | exact TFeedItem.flat _ | exact TIdx.flat _ | exact TVer.flat _ | (repeat (first | exact flatl_nil | (refine flatl_cons (by first | exact flat_is _ | exact flat_ik _ _ | exact flat_bool _ | exact flat_str _ | exact flat_nils) ?_))))) | (refine flate_cons ?_ ?_; (first | exact TWrite.flat _ | exact TFeedItem.flat _ | exact TIdx.flat _ | exact TVer.flat _ | (repeat (first | exact flatl_nil | (refine flatl_cons (by first | exact flat_is _ | exact flat_ik _ _ | exact flat_bool _ | exact flat_str _ | exact flat_nils) ?_))))) | refine flate_app ?_ ?_))))); done)) (by first | exact flatO_nil | (intro _; exact flatO_nil) | (intro _; first | exact flat_is _ | exact flat_ik _ _ | exact flat_bool _ | exact flat_str _ | exact flat_nils) | (intro _; refine flat_tup ?_; (repeat (first | exact flatl_nil | (refine flatl_cons (by first | (first | exact flat_is _ | exact flat_ik _ _ | exact flat_bool _ | exact flat_str _ | exact flat_nils) | (refine flat_agg ?_; (repeat (first | exact flatl_nil | (refine flatl_cons (by first | exact flat_is _ | exact flat_ik _ _ | exact flat_bool _ | exact flat_str _ | exact flat_nils) ?_))))) ?_))); done) | (intro _; refine flat_agg ?_; (repeat (first | exact flatl_nil | (refine flatl_cons (by first | exact flat_is _ | exact flat_ik _ _ | exact flat_bool _ | exact flat_str _ | exact flat_nils) ?_))); done) | ((repeat (first | exact flatO_nil | (refine flatO_cons (flatO_box ?_) ?_; (repeat (first | exact flatl_nil | (refine flatl_cons (by first | exact flat_is _ | exact flat_ik _ _ | exact flat_bool _ | exact flat_str _ | exact flat_nils) ?_)))) | (refine flatO_cons (flatO_arr ?_) ?_; (repeat (first | exact flate_nil | (refine flate_map (fun _ => ?_); (first | exact TWrite.flat _ | exact TFeedItem.flat _ | exact TIdx.flat _ | exact TVer.flat _ | (repeat (first | exact flatl_nil | (refine flatl_cons (by first | exact flat_is _ | exact flat_ik _ _ | exact flat_bool _ | exact flat_str _ | exact flat_nils) ?_))))) | (refine flate_rep ?_; (first | exact TWrite.flat _ | exact TFeedItem.flat _ | exact TIdx.flat _ | exact TVer.flat _ | (repeat (first | exact flatl_nil | (refine flatl_cons (by first | exact flat_is _ | exact flat_ik _ _ | exact flat_bool _ | exact flat_str _ | exact flat_nils) ?_))))) | (refine flate_cons ?_ ?_; (first | exact TWrite.flat _ | exact TFeedItem.flat _ | exact TIdx.flat _ | exact TVer.flat _ | (repeat (first | exact flatl_nil | (refine flatl_cons (by first | exact flat_is _ | exact flat_ik _ _ | exact flat_bool _ | exact flat_str _ | exact flat_nils) ?_))))) | refine flate_app ?_ ?_))))); done) | (intro _; (repeat (first | exact flatO_nil | (refine flatO_cons (flatO_box ?_) ?_; (repeat (first | exact flatl_nil | (refine flatl_cons (by first | exact flat_is _ | exact flat_ik _ _ | exact flat_bool _ | exact flat_str _ | exact flat_nils) ?_)))) | (refine flatO_cons (flatO_arr ?_) ?_; (repeat (first | exact flate_nil | (refine flate_map (fun _ => ?_); (first | exact TWrite.flat _ | exact TFeedItem.flat _ | exact TIdx.flat _ | exact TVer.flat _ | (repeat (first | exact flatl_nil | (refine flatl_cons (by first | exact flat_is _ | exact flat_ik _ _ | exact flat_bool _ | exact flat_str _ | exact flat_nils) ?_))))) | (refine flate_rep ?_; (first | exact TWrite.flat _ | exact TFeedItem.flat _ | exact TIdx.flat _ | exact TVer.flat _ | (repeat (first | exact flatl_nil | (refine flatl_cons (by first | exact flat_is _ | exact flat_ik _ _ | exact flat_bool _ | exact flat_str _ | exact flat_nils) ?_))))) | (refine flate_cons ?_ ?_; (first | exact TWrite.flat _ | exact TFeedItem.flat _ | exact TIdx.flat _ | exact TVer.flat _ | (repeat (first | exact flatl_nil | (refine flatl_cons (by first | exact flat_is _ | exact flat_ik _ _ | exact flat_bool _ | exact flat_str _ | exact flat_nils) ?_))))) | refine flate_app ?_ ?_))))); done)) ?_
  intro x24 ok24
  refine sq_plain rfl rfl rfl (w_move rfl (ev_tmp rfl)) ?_
  refine sq_plain rfl rfl rfl (w_extract rfl (ev_tmp rfl) rfl) ?_
  refine sq_plain rfl rfl rfl (w_extract rfl (ev_tmp rfl) rfl) ?_
  refine sq_plain rfl rfl rfl (w_assign rfl (ev_tmp rfl)) ?_
  refine sq_plain rfl rfl rfl (w_assign rfl (ev_tmp rfl)) ?_
  refine sq_nil ?_
  refine awp_seq ?_
  refine awp_region ?_
  refine sq_plain rfl rfl rfl (w_fldBn 2 rfl Try.underlying27 rfl Try.sizeOf3 (ev_tmp rfl) rfl) ?_
  refine sq_plain rfl rfl rfl (w_loadB1 4 rfl (ev_tmp rfl) rfl Try.isAgg3 rfl) ?_
  refine sq_plain rfl rfl rfl (w_eql rfl (ev_tmp rfl) ev_ci) ?_
  refine sq_plain rfl rfl rfl (w_move rfl (ev_tmp rfl)) ?_
  refine sq_grd rfl rfl (guard_f rfl rfl rfl) (fun hc => w_fldBn 6 rfl Try.underlying27 rfl Try.sizeOf4 (ev_tmp rfl) rfl) ?_
  refine sq_grd rfl rfl (guard_f rfl rfl rfl) (fun hc => w_loadB1 4 rfl (ev_whn rfl hc) rfl Try.isAgg4 rfl) ?_
  refine sq_plain rfl rfl rfl (w_or rfl (ev_tmp rfl) (evif_w rfl)) ?_
  refine sq_plain rfl rfl rfl (w_move rfl (ev_tmp rfl)) ?_
  refine sq_grd rfl rfl (guard_f rfl rfl rfl) (fun hc => w_fldBn 0 rfl Try.underlying37 rfl Try.sizeOf9 (ev_tmp rfl) rfl) ?_
  refine sq_grd rfl rfl (guard_f rfl rfl rfl) (fun hc => w_loadB1 3 rfl (ev_whn rfl hc) rfl Try.isAgg9 rfl) ?_
  refine sq_grd rfl rfl (guard_f rfl rfl rfl) (fun hc => w_fldBn 5 rfl Try.underlying27 rfl Try.sizeOf9 (ev_tmp rfl) rfl) ?_
  refine sq_grd rfl rfl (guard_f rfl rfl rfl) (fun hc => w_loadB1 4 rfl (ev_whn rfl hc) rfl Try.isAgg9 rfl) ?_
  refine sq_grd rfl rfl (guard_f rfl rfl rfl) (fun hc => w_sleq rfl (ev_whn rfl hc) (ev_whn rfl hc)) ?_
  refine sq_plain rfl rfl rfl (w_or rfl (ev_tmp rfl) (evif_w rfl)) ?_
  refine sq_plain rfl rfl rfl (w_assign rfl (ev_tmp rfl)) ?_
  refine sq_nil ?_
  refine awp_seq ?_
  refine awp_seq ?_
  refine awp_region ?_
  refine sq_plain rfl rfl rfl (w_fldBn 2 rfl Try.underlying27 rfl Try.sizeOf3 (ev_tmp rfl) rfl) ?_
  refine sq_plain rfl rfl rfl (w_loadB1 4 rfl (ev_tmp rfl) rfl Try.isAgg3 rfl) ?_
  refine sq_plain rfl rfl rfl (w_eql rfl (ev_tmp rfl) ev_ci) ?_
  refine sq_plain rfl rfl rfl (w_move rfl (ev_tmp rfl)) ?_
  refine sq_grd rfl rfl (guard_t rfl rfl rfl) (fun hc => w_move rfl (ev_tmp rfl)) ?_
  refine sq_grd rfl rfl (guard_t rfl rfl rfl) (fun hc => w_not rfl (ev_whn rfl hc)) ?_
  refine sq_plain rfl rfl rfl (w_and rfl (ev_tmp rfl) (evif_w rfl)) ?_
  refine sq_plain rfl rfl rfl (w_move rfl (ev_tmp rfl)) ?_
  refine sq_grd rfl rfl (guard_f rfl rfl rfl) (fun hc => w_move rfl (ev_tmp rfl)) ?_
  refine sq_grd rfl rfl (guard_f rfl rfl rfl) (fun hc => w_move rfl (ev_whn rfl hc)) ?_
  refine sq_grd rfl rfl (guard_wt rfl rfl rfl) (fun hc => w_move rfl (ev_tmp rfl)) ?_
  refine sq_grd rfl rfl (guard_wt rfl rfl rfl) (fun hc => w_not rfl (ev_whn rfl hc)) ?_
  refine sq_grd rfl rfl (guard_f rfl rfl rfl) (fun hc => w_and rfl (ev_whn rfl hc) (evif_w2 rfl hc)) ?_
  refine sq_plain rfl rfl rfl (w_or rfl (ev_tmp rfl) (evif_w rfl)) ?_
  refine sq_nil ?_
  refine awp_cond (ev_tmp rfl) ?_ ?_
  · intro h54
    have hb : putBad m w = true := h54
    have he : putMS m w = (m, false) := by unfold putMS; rw [if_pos hb]
    rw [he]
    refine awp_seq ?_
    refine awp_region ?_
    refine sq_plain rfl rfl rfl (w_loadA 4 rfl (ev_tmp rfl) rfl Try.isAgg27 Try.sizeOf27 rfl) ?_
    refine sq_storeB0 2 rfl rfl rfl (ev_tmp rfl) (ev_tmp rfl) (as_agg _) rfl Try.sizeOf27 rfl ?_
    refine sq_plain rfl rfl rfl (w_assign rfl ev_cb) ?_
    refine sq_nil ?_
    refine awp_ret ?_
    exact retG [5, 5] (x.1, x.2) (trivial) rfl (by rfl) (resN rfl (by decide) (rv_cons (rv_cell (ys := _) 2 rfl rfl Try.isAgg27 Try.sizeOf27 rfl) (rv_cons (rv_tmp' rfl (by rfl)) rv_nil)))
  · intro h54
    have hb : putBad m w = false := h54
    have he : putMS m w = (⟨m.Low, m.High, m.Phase, if m.Phase = 1 then (putRowsS m.From [w]).1 else m.From, if putBoth m w = true then (putRowsS m.To [w]).1 else m.To, m.Last, m.Over⟩, true) := by unfold putMS; rw [if_neg (by rw [hb]; decide)]
    rw [he]
    refine awp_skip ?_
    refine awp_seq ?_
    refine awp_seq ?_
    refine awp_region ?_
    refine sq_plain rfl rfl rfl (w_fldBn 2 rfl Try.underlying27 rfl Try.sizeOf3 (ev_tmp rfl) rfl) ?_
    refine sq_plain rfl rfl rfl (w_loadB1 4 rfl (ev_tmp rfl) rfl Try.isAgg3 rfl) ?_
    refine sq_plain rfl rfl rfl (w_eql rfl (ev_tmp rfl) ev_ci) ?_
    refine sq_nil ?_
    refine awp_cond (ev_tmp rfl) ?_ ?_
    · intro h58
      have k58 := eq_of_beqt h58; try simp only [List.length_map] at k58
      rw [if_pos k58]
      refine awp_region ?_
      refine sq_plain rfl rfl rfl (w_move rfl (ev_tmp rfl)) ?_
      refine sq_plain rfl rfl rfl (w_fldBn 3 rfl Try.underlying27 rfl Try.sizeOf23 (ev_tmp rfl) rfl) ?_
      refine sq_fact 1 rfl fun one_x16 => ?_
      refine sq_storeB1 4 rfl rfl rfl (ev_tmp rfl) (ev_tmp rfl) (as_is one_x16) rfl Try.sizeOf23 rfl ?_
      refine sq_nil ?_
      refine awp_seq ?_
      refine awp_seq ?_
      refine awp_region ?_
      refine sq_plain rfl rfl rfl (w_move rfl (ev_tmp rfl)) ?_
      refine sq_nil ?_
      refine awp_cond (ev_tmp rfl) ?_ ?_
      · intro h61
        rw [if_pos (show putBoth m w = true from h61)]
        refine awp_region ?_
        refine sq_plain rfl rfl rfl (w_move rfl (ev_tmp rfl)) ?_
        refine sq_plain rfl rfl rfl (w_fldBn 4 rfl Try.underlying27 rfl Try.sizeOf23 (ev_tmp rfl) rfl) ?_
        refine sq_fact 0 rfl fun one_x24 => ?_
        refine sq_storeB1 4 rfl rfl rfl (ev_tmp rfl) (ev_tmp rfl) (as_is one_x24) rfl Try.sizeOf23 rfl ?_
        refine sq_nil ?_
        refine awp_seq ?_
        refine awp_region ?_
        refine sq_plain rfl rfl rfl (w_loadA 4 rfl (ev_tmp rfl) rfl Try.isAgg27 Try.sizeOf27 rfl) ?_
        refine sq_storeB0 2 rfl rfl rfl (ev_tmp rfl) (ev_tmp rfl) (as_agg _) rfl Try.sizeOf27 rfl ?_
        refine sq_plain rfl rfl rfl (w_assign rfl ev_cb) ?_
        refine sq_nil ?_
        refine awp_ret ?_
        exact retG [1, 0] (x16, x24) (trivial) rfl (by rfl) (resN rfl (by decide) (rv_cons (rv_cell (ys := _) 2 rfl rfl Try.isAgg27 Try.sizeOf27 rfl) (rv_cons (rv_tmp' rfl (by rfl)) rv_nil)))
      · intro h61
        rw [if_neg (by rw [show putBoth m w = false from h61]; decide)]
        refine awp_skip ?_
        refine awp_seq ?_
        refine awp_region ?_
        refine sq_plain rfl rfl rfl (w_loadA 4 rfl (ev_tmp rfl) rfl Try.isAgg27 Try.sizeOf27 rfl) ?_
        refine sq_storeB0 2 rfl rfl rfl (ev_tmp rfl) (ev_tmp rfl) (as_agg _) rfl Try.sizeOf27 rfl ?_
        refine sq_plain rfl rfl rfl (w_assign rfl ev_cb) ?_
        refine sq_nil ?_
        refine awp_ret ?_
        exact retG [1, 5] (x16, x.2) (trivial) rfl (by rfl) (resN rfl (by decide) (rv_cons (rv_cell (ys := _) 2 rfl rfl Try.isAgg27 Try.sizeOf27 rfl) (rv_cons (rv_tmp' rfl (by rfl)) rv_nil)))
    · intro h58
      have k58 := ne_of_beqf h58; try simp only [List.length_map] at k58
      rw [if_neg k58]
      refine awp_skip ?_
      refine awp_seq ?_
      refine awp_seq ?_
      refine awp_region ?_
      refine sq_plain rfl rfl rfl (w_move rfl (ev_tmp rfl)) ?_
      refine sq_nil ?_
      refine awp_cond (ev_tmp rfl) ?_ ?_
      · intro h61
        rw [if_pos (show putBoth m w = true from h61)]
        refine awp_region ?_
        refine sq_plain rfl rfl rfl (w_move rfl (ev_tmp rfl)) ?_
        refine sq_plain rfl rfl rfl (w_fldBn 4 rfl Try.underlying27 rfl Try.sizeOf23 (ev_tmp rfl) rfl) ?_
        refine sq_fact 0 rfl fun one_x24 => ?_
        refine sq_storeB1 4 rfl rfl rfl (ev_tmp rfl) (ev_tmp rfl) (as_is one_x24) rfl Try.sizeOf23 rfl ?_
        refine sq_nil ?_
        refine awp_seq ?_
        refine awp_region ?_
        refine sq_plain rfl rfl rfl (w_loadA 4 rfl (ev_tmp rfl) rfl Try.isAgg27 Try.sizeOf27 rfl) ?_
        refine sq_storeB0 2 rfl rfl rfl (ev_tmp rfl) (ev_tmp rfl) (as_agg _) rfl Try.sizeOf27 rfl ?_
        refine sq_plain rfl rfl rfl (w_assign rfl ev_cb) ?_
        refine sq_nil ?_
        refine awp_ret ?_
        exact retG [5, 0] (x.1, x24) (trivial) rfl (by rfl) (resN rfl (by decide) (rv_cons (rv_cell (ys := _) 2 rfl rfl Try.isAgg27 Try.sizeOf27 rfl) (rv_cons (rv_tmp' rfl (by rfl)) rv_nil)))
      · intro h61
        rw [if_neg (by rw [show putBoth m w = false from h61]; decide)]
        refine awp_skip ?_
        refine awp_seq ?_
        refine awp_region ?_
        refine sq_plain rfl rfl rfl (w_loadA 4 rfl (ev_tmp rfl) rfl Try.isAgg27 Try.sizeOf27 rfl) ?_
        refine sq_storeB0 2 rfl rfl rfl (ev_tmp rfl) (ev_tmp rfl) (as_agg _) rfl Try.sizeOf27 rfl ?_
        refine sq_plain rfl rfl rfl (w_assign rfl ev_cb) ?_
        refine sq_nil ?_
        refine awp_ret ?_
        exact retG [5, 5] (x.1, x.2) (trivial) rfl (by rfl) (resN rfl (by decide) (rv_cons (rv_cell (ys := _) 2 rfl rfl Try.isAgg27 Try.sizeOf27 rfl) (rv_cons (rv_tmp' rfl (by rfl)) rv_nil)))
theorem l22Piece_own (m : TMove) (x : Value × Value) (many : Int) (hs : m.size ≤ 131072) (hm : 0 ≤ many) : GSpec Try.prog 165 [AV.agg (TMove.ocs m x), AV.int many] (TMove.ow m x) (fun _ : Value × Value => True) (fun y => TMove.ow (pieceMS m many) y) (fun y => AV.agg (TMove.ocs (pieceMS m many) y)) := by
  unfold TMove.size at hs
  have hf : m.From.length ≤ 131072 := Nat.le_trans sizeL_len (show sizeL TWrite.size m.From ≤ 131072 by omega)
  have ht : m.To.length ≤ 131072 := Nat.le_trans sizeL_len (show sizeL TWrite.size m.To ≤ 131072 by omega)
  have hrl : (leftM m).length ≤ 131072 := Nat.le_trans (List.length_filter_le _ _) hf
  refine gspec_of_awp Try.func165 rfl Try.ntmps165 rfl ?_
  refine awp_seq ?_
  refine awp_region ?_
  refine sq_box rfl rfl rfl rfl (ev_tmp rfl) ?_
  intro b2
  refine sq_alloc rfl rfl rfl rfl Try.zeroValue27 rfl ?_
  intro b4
  refine sq_nil ?_
  refine awp_seq ?_
  refine awp_region ?_
  refine sq_plain rfl rfl rfl (w_fldBn 3 rfl Try.underlying27 rfl Try.sizeOf23 (ev_tmp rfl) rfl) ?_
  refine sq_plain rfl rfl rfl (w_loadB1 1 rfl (ev_tmp rfl) rfl Try.isAgg23 rfl) ?_
  refine sq_plain rfl rfl rfl (w_fldBn 5 rfl Try.underlying27 rfl Try.sizeOf9 (ev_tmp rfl) rfl) ?_
  refine sq_plain rfl rfl rfl (w_loadB1 1 rfl (ev_tmp rfl) rfl Try.isAgg9 rfl) ?_
  refine sq_callGB [] rfl rfl rfl rfl Try.call217 rfl (l22Left_own m.From m.Last (by omega)) rfl (evlb_cons (evb_arr 2 (ev_tmp rfl) rfl) (evlb_cons (evb (ev_tmp rfl)) evlb_nil)) (by first | exact flatO_nil | (intro _; exact flatO_nil) | (intro _; first | exact flat_is _ | exact flat_ik _ _ | exact flat_bool _ | exact flat_str _ | exact flat_nils) | (intro _; refine flat_tup ?_; (repeat (first | exact flatl_nil | (refine flatl_cons (by first | (first | exact flat_is _ | exact flat_ik _ _ | exact flat_bool _ | exact flat_str _ | exact flat_nils) | (refine flat_agg ?_; (repeat (first | exact flatl_nil | (refine flatl_cons (by first | exact flat_is _ | exact flat_ik _ _ | exact flat_bool _ | exact flat_str _ | exact flat_nils) ?_))))) ?_))); done) | (intro _; refine flat_agg ?_; (repeat (first | exact flatl_nil | (refine flatl_cons (by first | exact flat_is _ | exact flat_ik _ _ | exact flat_bool _ | exact flat_str _ | exact flat_nils) ?_))); done) | ((repeat (first | exact flatO_nil | (refine flatO_cons (flatO_box ?_) ?_; (repeat (first | exact flatl_nil | (refine flatl_cons (by first | exact flat_is _ | exact flat_ik _ _ | exact flat_bool _ | exact flat_str _ | exact flat_nils) ?_)))) | (refine flatO_cons (flatO_arr ?_) ?_; (repeat (first | exact flate_nil | (refine flate_map (fun _ => ?_); (first | exact TWrite.flat _ | exact TFeedItem.flat _ | exact TIdx.flat _ | exact TVer.flat _ | (repeat (first | exact flatl_nil | (refine flatl_cons (by first | exact flat_is _ | exact flat_ik _ _ | exact flat_bool _ | exact flat_str _ | exact flat_nils) ?_))))) | (refine flate_rep ?_; (first | exact TWrite.flat _ | exact TFeedItem.flat _ | exact TIdx.flat _ | exact TVer.flat _ | (repeat (first | exact flatl_nil | (refine flatl_cons (by first | exact flat_is _ | exact flat_ik _ _ | exact flat_bool _ | exact flat_str _ | exact flat_nils) ?_))))) | (refine flate_cons ?_ ?_; (first | exact TWrite.flat _ | exact TFeedItem.flat _ | exact TIdx.flat _ | exact TVer.flat _ | (repeat (first | exact flatl_nil | (refine flatl_cons (by first | exact flat_is _ | exact flat_ik _ _ | exact flat_bool _ | exact flat_str _ | exact flat_nils) ?_))))) | refine flate_app ?_ ?_))))); done) | (intro _; (repeat (first | exact flatO_nil | (refine flatO_cons (flatO_box ?_) ?_; (repeat (first | exact flatl_nil | (refine flatl_cons (by first | exact flat_is _ | exact flat_ik _ _ | exact flat_bool _ | exact flat_str _ | exact flat_nils) ?_)))) | (refine flatO_cons (flatO_arr ?_) ?_; (repeat (first | exact flate_nil | (refine flate_map (fun _ => ?_); (first | exact TWrite.flat _ | exact TFeedItem.flat _ | exact TIdx.flat _ | exact TVer.flat _ | (repeat (first | exact flatl_nil | (refine flatl_cons (by first | exact flat_is _ | exact flat_ik _ _ | exact flat_bool _ | exact flat_str _ | exact flat_nils) ?_))))) | (refine flate_rep ?_; (first | exact TWrite.flat _ | exact TFeedItem.flat _ | exact TIdx.flat _ | exact TVer.flat _ | (repeat (first | exact flatl_nil | (refine flatl_cons (by first | exact flat_is _ | exact flat_ik _ _ | exact flat_bool _ | exact flat_str _ | exact flat_nils) ?_))))) | (refine flate_cons ?_ ?_; (first | exact TWrite.flat _ | exact TFeedItem.flat _ | exact TIdx.flat _ | exact TVer.flat _ | (repeat (first | exact flatl_nil | (refine flatl_cons (by first | exact flat_is _ | exact flat_ik _ _ | exact flat_bool _ | exact flat_str _ | exact flat_nils) ?_))))) | refine flate_app ?_ ?_))))); done)) (by first | exact flatO_nil | (intro _; exact flatO_nil) | (intro _; first | exact flat_is _ | exact flat_ik _ _ | exact flat_bool _ | exact flat_str _ | exact flat_nils) | (intro _; refine flat_tup ?_; (repeat (first | exact flatl_nil | (refine flatl_cons (by first | (first | exact flat_is _ | exact flat_ik _ _ | exact flat_bool _ | exact flat_str _ | exact flat_nils) | (refine flat_agg ?_; (repeat (first | exact flatl_nil | (refine flatl_cons (by first | exact flat_is _ | exact flat_ik _ _ | exact flat_bool _ | exact flat_str _ | exact flat_nils) ?_))))) ?_))); done) | (intro _; refine flat_agg ?_; (repeat (first | exact flatl_nil | (refine flatl_cons (by first | exact flat_is _ | exact flat_ik _ _ | exact flat_bool _ | exact flat_str _ | exact flat_nils) ?_))); done) | ((repeat (first | exact flatO_nil | (refine flatO_cons (flatO_box ?_) ?_; (repeat (first | exact flatl_nil | (refine flatl_cons (by first | exact flat_is _ | exact flat_ik _ _ | exact flat_bool _ | exact flat_str _ | exact flat_nils) ?_)))) | (refine flatO_cons (flatO_arr ?_) ?_; (repeat (first | exact flate_nil | (refine flate_map (fun _ => ?_); (first | exact TWrite.flat _ | exact TFeedItem.flat _ | exact TIdx.flat _ | exact TVer.flat _ | (repeat (first | exact flatl_nil | (refine flatl_cons (by first | exact flat_is _ | exact flat_ik _ _ | exact flat_bool _ | exact flat_str _ | exact flat_nils) ?_))))) | (refine flate_rep ?_; (first | exact TWrite.flat _ | exact TFeedItem.flat _ | exact TIdx.flat _ | exact TVer.flat _ | (repeat (first | exact flatl_nil | (refine flatl_cons (by first | exact flat_is _ | exact flat_ik _ _ | exact flat_bool _ | exact flat_str _ | exact flat_nils) ?_))))) | (refine flate_cons ?_ ?_; (first | exact TWrite.flat _ | exact TFeedItem.flat _ | exact TIdx.flat _ | exact TVer.flat _ | (repeat (first | exact flatl_nil | (refine flatl_cons (by first | exact flat_is _ | exact flat_ik _ _ | exact flat_bool _ | exact flat_str _ | exact flat_nils) ?_))))) | refine flate_app ?_ ?_))))); done) | (intro _; (repeat (first | exact flatO_nil | (refine flatO_cons (flatO_box ?_) ?_; (repeat (first | exact flatl_nil | (refine flatl_cons (by first | exact flat_is _ | exact flat_ik _ _ | exact flat_bool _ | exact flat_str _ | exact flat_nils) ?_)))) | (refine flatO_cons (flatO_arr ?_) ?_; (repeat (first | exact flate_nil | (refine flate_map (fun _ => ?_); (first | exact TWrite.flat _ | exact TFeedItem.flat _ | exact TIdx.flat _ | exact TVer.flat _ | (repeat (first | exact flatl_nil | (refine flatl_cons (by first | exact flat_is _ | exact flat_ik _ _ | exact flat_bool _ | exact flat_str _ | exact flat_nils) ?_))))) | (refine flate_rep ?_; (first | exact TWrite.flat _ | exact TFeedItem.flat _ | exact TIdx.flat _ | exact TVer.flat _ | (repeat (first | exact flatl_nil | (refine flatl_cons (by first | exact flat_is _ | exact flat_ik _ _ | exact flat_bool _ | exact flat_str _ | exact flat_nils) ?_))))) | (refine flate_cons ?_ ?_; (first | exact TWrite.flat _ | exact TFeedItem.flat _ | exact TIdx.flat _ | exact TVer.flat _ | (repeat (first | exact flatl_nil | (refine flatl_cons (by first | exact flat_is _ | exact flat_ik _ _ | exact flat_bool _ | exact flat_str _ | exact flat_nils) ?_))))) | refine flate_app ?_ ?_))))); done)) (by first | exact flatO_nil | (intro _; exact flatO_nil) | (intro _; first | exact flat_is _ | exact flat_ik _ _ | exact flat_bool _ | exact flat_str _ | exact flat_nils) | (intro _; refine flat_tup ?_; (repeat (first | exact flatl_nil | (refine flatl_cons (by first | (first | exact flat_is _ | exact flat_ik _ _ | exact flat_bool _ | exact flat_str _ | exact flat_nils) | (refine flat_agg ?_; (repeat (first | exact flatl_nil | (refine flatl_cons (by first | exact flat_is _ | exact flat_ik _ _ | exact flat_bool _ | exact flat_str _ | exact flat_nils) ?_))))) ?_))); done) | (intro _; refine flat_agg ?_; (repeat (first | exact flatl_nil | (refine flatl_cons (by first | exact flat_is _ | exact flat_ik _ _ | exact flat_bool _ | exact flat_str _ | exact flat_nils) ?_))); done) | ((repeat (first | exact flatO_nil | (refine flatO_cons (flatO_box ?_) ?_; (repeat (first | exact flatl_nil | (refine flatl_cons (by first | exact flat_is _ | exact flat_ik _ _ | exact flat_bool _ | exact flat_str _ | exact flat_nils) ?_)))) | (refine flatO_cons (flatO_arr ?_) ?_; (repeat (first | exact flate_nil | (refine flate_map (fun _ => ?_); (first | exact TWrite.flat _ | exact TFeedItem.flat _ | exact TIdx.flat _ | exact TVer.flat _ | (repeat (first | exact flatl_nil | (refine flatl_cons (by first | exact flat_is _ | exact flat_ik _ _ | exact flat_bool _ | exact flat_str _ | exact flat_nils) ?_))))) | (refine flate_rep ?_; (first | exact TWrite.flat _ | exact TFeedItem.flat _ | exact TIdx.flat _ | exact TVer.flat _ | (repeat (first | exact flatl_nil | (refine flatl_cons (by first | exact flat_is _ | exact flat_ik _ _ | exact flat_bool _ | exact flat_str _ | exact flat_nils) ?_))))) | (refine flate_cons ?_ ?_; (first | exact TWrite.flat _ | exact TFeedItem.flat _ | exact TIdx.flat _ | exact TVer.flat _ | (repeat (first | exact flatl_nil | (refine flatl_cons (by first | exact flat_is _ | exact flat_ik _ _ | exact flat_bool _ | exact flat_str _ | exact flat_nils) ?_))))) | refine flate_app ?_ ?_))))); done) | (intro _; (repeat (first | exact flatO_nil | (refine flatO_cons (flatO_box ?_) ?_; (repeat (first | exact flatl_nil | (refine flatl_cons (by first | exact flat_is _ | exact flat_ik _ _ | exact flat_bool _ | exact flat_str _ | exact flat_nils) ?_)))) | (refine flatO_cons (flatO_arr ?_) ?_; (repeat (first | exact flate_nil | (refine flate_map (fun _ => ?_); (first | exact TWrite.flat _ | exact TFeedItem.flat _ | exact TIdx.flat _ | exact TVer.flat _ | (repeat (first | exact flatl_nil | (refine flatl_cons (by first | exact flat_is _ | exact flat_ik _ _ | exact flat_bool _ | exact flat_str _ | exact flat_nils) ?_))))) | (refine flate_rep ?_; (first | exact TWrite.flat _ | exact TFeedItem.flat _ | exact TIdx.flat _ | exact TVer.flat _ | (repeat (first | exact flatl_nil | (refine flatl_cons (by first | exact flat_is _ | exact flat_ik _ _ | exact flat_bool _ | exact flat_str _ | exact flat_nils) ?_))))) | (refine flate_cons ?_ ?_; (first | exact TWrite.flat _ | exact TFeedItem.flat _ | exact TIdx.flat _ | exact TVer.flat _ | (repeat (first | exact flatl_nil | (refine flatl_cons (by first | exact flat_is _ | exact flat_ik _ _ | exact flat_bool _ | exact flat_str _ | exact flat_nils) ?_))))) | refine flate_app ?_ ?_))))); done)) ?_
  intro x13 ok13
  refine sq_plain rfl rfl rfl (w_assign rfl (ev_tmp rfl)) ?_
  refine sq_nil ?_
  refine awp_seq ?_
  rw [show (m.From.filter fun w => !(Op.bytesLess w.Key m.Last || w.Key == m.Last)) = leftM m from rfl]
  refine AWP.le (le_sealD [0] 5 rfl rfl (lt_arr (List.mem_of_getElem? (i := 0) rfl) le_refl_e) (gin_cons 2 rfl rfl (gin_cons 3 rfl rfl gin_nil))) ?_
  refine awp_region ?_
  refine sq_plain rfl rfl rfl (w_move rfl (ev_tmp rfl)) ?_
  refine sq_plain rfl rfl rfl (w_move rfl (ev_tmp rfl)) ?_
  refine sq_plain rfl rfl rfl (w_llen rfl Try.underlying23 (ev_tmp rfl)) ?_
  refine sq_plain rfl rfl rfl (w_call rfl Try.call218 rfl (l1Least_spec _ _) (evl_cons (ev_tmp rfl) (evl_cons (ev_tmp rfl) evl_nil))) ?_
  refine sq_plain rfl rfl rfl (w_assign rfl (ev_tmp rfl)) ?_
  refine sq_nil ?_
  refine awp_seq ?_
  refine awp_seq ?_
  rw [show (List.map TWrite.cs (leftM m)).length = (leftM m).length from List.length_map _]
  have hl0 : 0 ≤ leastI many (leftM m).length ∧ leastI many (leftM m).length ≤ (leftM m).length := by unfold leastI; split <;> omega
  refine awp_region ?_
  refine sq_plain rfl rfl rfl (w_move rfl (ev_tmp rfl)) ?_
  refine sq_plain rfl rfl rfl (w_move rfl (ev_tmp rfl)) ?_
  refine sq_plain rfl rfl rfl (w_lsl_him rfl Try.underlying23 Try.sizeOf37 (ev_tmp rfl) (ev_tmp rfl) (by first | omega | ((try simp only [List.length_map, List.length_take, List.length_cons, List.length_nil, chunks_len, szR] at *); omega) | (have hc2 := hc; simp only [Bool.and_eq_true, Bool.or_eq_true, Bool.or_eq_false_iff, Bool.and_eq_false_iff, Bool.not_eq_true', Bool.not_eq_false', decide_eq_true_eq, decide_eq_false_iff_not, beq_iff_eq, bne_iff_ne, List.length_map, List.length_take] at hc2; omega)) (by first | omega | ((try simp only [List.length_map, List.length_take, List.length_cons, List.length_nil, chunks_len, szR] at *); omega) | (have hc2 := hc; simp only [Bool.and_eq_true, Bool.or_eq_true, Bool.or_eq_false_iff, Bool.and_eq_false_iff, Bool.not_eq_true', Bool.not_eq_false', decide_eq_true_eq, decide_eq_false_iff_not, beq_iff_eq, bne_iff_ne, List.length_map, List.length_take] at hc2; omega))) ?_
  refine sq_plain rfl rfl rfl (w_llen rfl Try.underlying23 (ev_tmp rfl)) ?_
  refine sq_plain rfl rfl rfl (w_move rfl ev_ci) ?_
  refine sq_nil ?_
  refine awp_block ?_
  rw [show (leftM m).take (leastI many (leftM m).length).toNat = pieceS m many from rfl]
  have hpl : (pieceS m many).length ≤ (leftM m).length := List.length_take_le' _ _
  refine AWP.le (le_pick [1, 2] rfl) ?_
  refine awp_loop_i2 [(2, _), (4, _), (5, _), (6, _), (20, _), (21, _)] _ (fun (i : Nat) (v : Value) => i ≤ (pieceS m many).length) (fun (i : Nat) (v : Value) => [.box b2 27 (TMove.ocs ⟨m.Low, m.High, m.Phase, m.From, putLS m.To ((pieceS m many).take i), lastKey ((pieceS m many).take i) m.Last, m.Over⟩ (x.1, v)), .arr v 37 3 ((putLS m.To ((pieceS m many).take i)).map TWrite.cs)]) (fun (i : Nat) (v : Value) => [(22, AV.int i)]) (fun (i : Nat) (v : Value) => (pieceS m many).length - i) (0) (x.2) ?_ (le_eq (by rfl) ⟨rfl, rfl, rfl, rfl, rfl, rfl, rfl, trivial⟩) ?_
  · exact Nat.zero_le _
  intro i v hinv
  refine awp_seq ?_
  refine awp_region ?_
  refine sq_plain rfl rfl rfl (w_lss rfl (ev_tmp rfl) (ev_tmp rfl)) ?_
  refine sq_nil ?_
  refine awp_seq ?_
  refine awp_cond (ev_tmp rfl) ?_ ?_
  · intro h23
    have k23 := of_decide_eq_true h23; try simp only [List.length_map] at k23
    have hlt : i < (pieceS m many).length := by omega
    obtain ⟨y, hy⟩ := get_some hlt
    have hpl2 := putLS_len ((pieceS m many).take i) m.To
    rw [List.length_take] at hpl2
    refine awp_skip ?_
    refine awp_seq ?_
    refine awp_block ?_
    refine awp_seq ?_
    refine awp_region ?_
    refine sq_plain rfl rfl rfl (w_idxm rfl Try.underlying23 Try.sizeOf37 (ev_tmp rfl) (ev_tmp rfl) hy (by first | omega | ((try simp only [List.length_map, List.length_take, List.length_cons, List.length_nil, chunks_len, szR] at *); omega) | (have hc2 := hc; simp only [Bool.and_eq_true, Bool.or_eq_true, Bool.or_eq_false_iff, Bool.and_eq_false_iff, Bool.not_eq_true', Bool.not_eq_false', decide_eq_true_eq, decide_eq_false_iff_not, beq_iff_eq, bne_iff_ne, List.length_map, List.length_take] at hc2; omega))) ?_
    refine sq_plain rfl rfl rfl (w_loadE rfl (ev_tmp rfl) Try.isAgg37 Try.sizeOf37) ?_
    refine sq_alloc rfl rfl rfl rfl Try.zeroValue37 rfl ?_
    intro b8
    refine sq_storeB0 0 rfl rfl rfl (ev_tmp rfl) (ev_tmp rfl) (as_agg _) rfl Try.sizeOf37 rfl ?_
    refine sq_nil ?_
    refine awp_seq ?_
    refine awp_region ?_
    refine sq_plain rfl rfl rfl (w_fldBn 4 rfl Try.underlying27 rfl Try.sizeOf23 (ev_tmp rfl) rfl) ?_
    refine sq_plain rfl rfl rfl (w_loadB1 1 rfl (ev_tmp rfl) rfl Try.isAgg23 rfl) ?_
    refine sq_plain rfl rfl rfl (w_loadA 0 rfl (ev_tmp rfl) rfl Try.isAgg37 Try.sizeOf37 rfl) ?_
    refine sq_callGB [] rfl rfl rfl rfl Try.call158 rfl (l5PutW_own (putLS m.To ((pieceS m many).take i)) y (by omega)) rfl (evlb_cons (evb_arr 2 (ev_tmp rfl) rfl) (evlb_cons (evb (ev_tmp rfl)) evlb_nil)) (by first | exact flatO_nil | (intro _; exact flatO_nil) | (intro _; first | exact flat_is _ | exact flat_ik _ _ | exact flat_bool _ | exact flat_str _ | exact flat_nils) | (intro _; refine flat_tup ?_; (repeat (first | exact flatl_nil | (refine flatl_cons (by first | (first | exact flat_is _ | exact flat_ik _ _ | exact flat_bool _ | exact flat_str _ | exact flat_nils) | (refine flat_agg ?_; (repeat (first | exact flatl_nil | (refine flatl_cons (by first | exact flat_is _ | exact flat_ik _ _ | exact flat_bool _ | exact flat_str _ | exact flat_nils) ?_))))) ?_))); done) | (intro _; refine flat_agg ?_; (repeat (first | exact flatl_nil | (refine flatl_cons (by first | exact flat_is _ | exact flat_ik _ _ | exact flat_bool _ | exact flat_str _ | exact flat_nils) ?_))); done) | ((repeat (first | exact flatO_nil | (refine flatO_cons (flatO_box ?_) ?_; (repeat (first | exact flatl_nil | (refine flatl_cons (by first | exact flat_is _ | exact flat_ik _ _ | exact flat_bool _ | exact flat_str _ | exact flat_nils) ?_)))) | (refine flatO_cons (flatO_arr ?_) ?_; (repeat (first | exact flate_nil | (refine flate_map (fun _ => ?_); (first | exact TWrite.flat _ | exact TFeedItem.flat _ | exact TIdx.flat _ | exact TVer.flat _ | (repeat (first | exact flatl_nil | (refine flatl_cons (by first | exact flat_is _ | exact flat_ik _ _ | exact flat_bool _ | exact flat_str _ | exact flat_nils) ?_))))) | (refine flate_rep ?_; (first | exact TWrite.flat _ | exact TFeedItem.flat _ | exact TIdx.flat _ | exact TVer.flat _ | (repeat (first | exact flatl_nil | (refine flatl_cons (by first | exact flat_is _ | exact flat_ik _ _ | exact flat_bool _ | exact flat_str _ | exact flat_nils) ?_))))) | (refine flate_cons ?_ ?_; (first | exact TWrite.flat _ | exact TFeedItem.flat _ | exact TIdx.flat _ | exact TVer.flat _ | (repeat (first | exact flatl_nil | (refine flatl_cons (by first | exact flat_is _ | exact flat_ik _ _ | exact flat_bool _ | exact flat_str _ | exact flat_nils) ?_))))) | refine flate_app ?_ ?_))))); done) | (intro _; (repeat (first | exact flatO_nil | (refine flatO_cons (flatO_box ?_) ?_; (repeat (first | exact flatl_nil | (refine flatl_cons (by first | exact flat_is _ | exact flat_ik _ _ | exact flat_bool _ | exact flat_str _ | exact flat_nils) ?_)))) | (refine flatO_cons (flatO_arr ?_) ?_; (repeat (first | exact flate_nil | (refine flate_map (fun _ => ?_); (first | exact TWrite.flat _ | exact TFeedItem.flat _ | exact TIdx.flat _ | exact TVer.flat _ | (repeat (first | exact flatl_nil | (refine flatl_cons (by first | exact flat_is _ | exact flat_ik _ _ | exact flat_bool _ | exact flat_str _ | exact flat_nils) ?_))))) | (refine flate_rep ?_; (first | exact TWrite.flat _ | exact TFeedItem.flat _ | exact TIdx.flat _ | exact TVer.flat _ | (repeat (first | exact flatl_nil | (refine flatl_cons (by first | exact flat_is _ | exact flat_ik _ _ | exact flat_bool _ | exact flat_str _ | exact flat_nils) ?_))))) | (refine flate_cons ?_ ?_; (first | exact TWrite.flat _ | exact TFeedItem.flat _ | exact TIdx.flat _ | exact TVer.flat _ | (repeat (first | exact flatl_nil | (refine flatl_cons (by first | exact flat_is _ | exact flat_ik _ _ | exact flat_bool _ | exact flat_str _ | exact flat_nils) ?_))))) | refine flate_app ?_ ?_))))); done)) (by first | exact flatO_nil | (intro _; exact flatO_nil) | (intro _; first | exact flat_is _ | exact flat_ik _ _ | exact flat_bool _ | exact flat_str _ | exact flat_nils) | (intro _; refine flat_tup ?_; (repeat (first | exact flatl_nil | (refine flatl_cons (by first | (first | exact flat_is _ | exact flat_ik _ _ | exact flat_bool _ | exact flat_str _ | exact flat_nils) | (refine flat_agg ?_; (repeat (first | exact flatl_nil | (refine flatl_cons (by first | exact flat_is _ | exact flat_ik _ _ | exact flat_bool _ | exact flat_str _ | exact flat_nils) ?_))))) ?_))); done) | (intro _; refine flat_agg ?_; (repeat (first | exact flatl_nil | (refine flatl_cons (by first | exact flat_is _ | exact flat_ik _ _ | exact flat_bool _ | exact flat_str _ | exact flat_nils) ?_))); done) | ((repeat (first | exact flatO_nil | (refine flatO_cons (flatO_box ?_) ?_; (repeat (first | exact flatl_nil | (refine flatl_cons (by first | exact flat_is _ | exact flat_ik _ _ | exact flat_bool _ | exact flat_str _ | exact flat_nils) ?_)))) | (refine flatO_cons (flatO_arr ?_) ?_; (repeat (first | exact flate_nil | (refine flate_map (fun _ => ?_); (first | exact TWrite.flat _ | exact TFeedItem.flat _ | exact TIdx.flat _ | exact TVer.flat _ | (repeat (first | exact flatl_nil | (refine flatl_cons (by first | exact flat_is _ | exact flat_ik _ _ | exact flat_bool _ | exact flat_str _ | exact flat_nils) ?_))))) | (refine flate_rep ?_; (first | exact TWrite.flat _ | exact TFeedItem.flat _ | exact TIdx.flat _ | exact TVer.flat _ | (repeat (first | exact flatl_nil | (refine flatl_cons (by first | exact flat_is _ | exact flat_ik _ _ | exact flat_bool _ | exact flat_str _ | exact flat_nils) ?_))))) | (refine flate_cons ?_ ?_; (first | exact TWrite.flat _ | exact TFeedItem.flat _ | exact TIdx.flat _ | exact TVer.flat _ | (repeat (first | exact flatl_nil | (refine flatl_cons (by first | exact flat_is _ | exact flat_ik _ _ | exact flat_bool _ | exact flat_str _ | exact flat_nils) ?_))))) | refine flate_app ?_ ?_))))); done) | (intro _; (repeat (first | exact flatO_nil | (refine flatO_cons (flatO_box ?_) ?_; (repeat (first | exact flatl_nil | (refine flatl_cons (by first | exact flat_is _ | exact flat_ik _ _ | exact flat_bool _ | exact flat_str _ | exact flat_nils) ?_)))) | (refine flatO_cons (flatO_arr ?_) ?_; (repeat (first | exact flate_nil | (refine flate_map (fun _ => ?_); (first | exact TWrite.flat _ | exact TFeedItem.flat _ | exact TIdx.flat _ | exact TVer.flat _ | (repeat (first | exact flatl_nil | (refine flatl_cons (by first | exact flat_is _ | exact flat_ik _ _ | exact flat_bool _ | exact flat_str _ | exact flat_nils) ?_))))) | (refine flate_rep ?_; (first | exact TWrite.flat _ | exact TFeedItem.flat _ | exact TIdx.flat _ | exact TVer.flat _ | (repeat (first | exact flatl_nil | (refine flatl_cons (by first | exact flat_is _ | exact flat_ik _ _ | exact flat_bool _ | exact flat_str _ | exact flat_nils) ?_))))) | (refine flate_cons ?_ ?_; (first | exact TWrite.flat _ | exact TFeedItem.flat _ | exact TIdx.flat _ | exact TVer.flat _ | (repeat (first | exact flatl_nil | (refine flatl_cons (by first | exact flat_is _ | exact flat_ik _ _ | exact flat_bool _ | exact flat_str _ | exact flat_nils) ?_))))) | refine flate_app ?_ ?_))))); done)) (by first | exact flatO_nil | (intro _; exact flatO_nil) | (intro _; first | exact flat_is _ | exact flat_ik _ _ | exact flat_bool _ | exact flat_str _ | exact flat_nils) | (intro _; refine flat_tup ?_; (repeat (first | exact flatl_nil | (refine flatl_cons (by first | (first | exact flat_is _ | exact flat_ik _ _ | exact flat_bool _ | exact flat_str _ | exact flat_nils) | (refine flat_agg ?_; (repeat (first | exact flatl_nil | (refine flatl_cons (by first | exact flat_is _ | exact flat_ik _ _ | exact flat_bool _ | exact flat_str _ | exact flat_nils) ?_))))) ?_))); done) | (intro _; refine flat_agg ?_; (repeat (first | exact flatl_nil | (refine flatl_cons (by first | exact flat_is _ | exact flat_ik _ _ | exact flat_bool _ | exact flat_str _ | exact flat_nils) ?_))); done) | ((repeat (first | exact flatO_nil | (refine flatO_cons (flatO_box ?_) ?_; (repeat (first | exact flatl_nil | (refine flatl_cons (by first | exact flat_is _ | exact flat_ik _ _ | exact flat_bool _ | exact flat_str _ | exact flat_nils) ?_)))) | (refine flatO_cons (flatO_arr ?_) ?_; (repeat (first | exact flate_nil | (refine flate_map (fun _ => ?_); (first | exact TWrite.flat _ | exact TFeedItem.flat _ | exact TIdx.flat _ | exact TVer.flat _ | (repeat (first | exact flatl_nil | (refine flatl_cons (by first | exact flat_is _ | exact flat_ik _ _ | exact flat_bool _ | exact flat_str _ | exact flat_nils) ?_))))) | (refine flate_rep ?_; (first | exact TWrite.flat _ | exact TFeedItem.flat _ | exact TIdx.flat _ | exact TVer.flat _ | (repeat (first | exact flatl_nil | (refine flatl_cons (by first | exact flat_is _ | exact flat_ik _ _ | exact flat_bool _ | exact flat_str _ | exact flat_nils) ?_))))) | (refine flate_cons ?_ ?_; (first | exact TWrite.flat _ | exact TFeedItem.flat _ | exact TIdx.flat _ | exact TVer.flat _ | (repeat (first | exact flatl_nil | (refine flatl_cons (by first | exact flat_is _ | exact flat_ik _ _ | exact flat_bool _ | exact flat_str _ | exact flat_nils) ?_))))) | refine flate_app ?_ ?_))))); done) | (intro _; (repeat (first | exact flatO_nil | (refine flatO_cons (flatO_box ?_) ?_; (repeat (first | exact flatl_nil | (refine flatl_cons (by first | exact flat_is _ | exact flat_ik _ _ | exact flat_bool _ | exact flat_str _ | exact flat_nils) ?_)))) | (refine flatO_cons (flatO_arr ?_) ?_; (repeat (first | exact flate_nil | (refine flate_map (fun _ => ?_); (first | exact TWrite.flat _ | exact TFeedItem.flat _ | exact TIdx.flat _ | exact TVer.flat _ | (repeat (first | exact flatl_nil | (refine flatl_cons (by first | exact flat_is _ | exact flat_ik _ _ | exact flat_bool _ | exact flat_str _ | exact flat_nils) ?_))))) | (refine flate_rep ?_; (first | exact TWrite.flat _ | exact TFeedItem.flat _ | exact TIdx.flat _ | exact TVer.flat _ | (repeat (first | exact flatl_nil | (refine flatl_cons (by first | exact flat_is _ | exact flat_ik _ _ | exact flat_bool _ | exact flat_str _ | exact flat_nils) ?_))))) | (refine flate_cons ?_ ?_; (first | exact TWrite.flat _ | exact TFeedItem.flat _ | exact TIdx.flat _ | exact TVer.flat _ | (repeat (first | exact flatl_nil | (refine flatl_cons (by first | exact flat_is _ | exact flat_ik _ _ | exact flat_bool _ | exact flat_str _ | exact flat_nils) ?_))))) | refine flate_app ?_ ?_))))); done)) ?_
    intro x29 ok29
    refine sq_plain rfl rfl rfl (w_fldBn 4 rfl Try.underlying27 rfl Try.sizeOf23 (ev_tmp rfl) rfl) ?_
    refine sq_fact 0 rfl fun one_x29 => ?_
    refine sq_storeB1 2 rfl rfl rfl (ev_tmp rfl) (ev_tmp rfl) (as_is one_x29) rfl Try.sizeOf23 rfl ?_
    refine sq_nil ?_
    refine awp_region ?_
    refine sq_plain rfl rfl rfl (w_fldBn 0 rfl Try.underlying37 rfl Try.sizeOf9 (ev_tmp rfl) rfl) ?_
    refine sq_plain rfl rfl rfl (w_loadB1 1 rfl (ev_tmp rfl) rfl Try.isAgg9 rfl) ?_
    refine sq_plain rfl rfl rfl (w_fldBn 5 rfl Try.underlying27 rfl Try.sizeOf9 (ev_tmp rfl) rfl) ?_
    refine sq_storeB1 2 rfl rfl rfl (ev_tmp rfl) (ev_tmp rfl) (as_str _) rfl Try.sizeOf9 rfl ?_
    refine sq_nil ?_
    refine awp_region ?_
    refine sq_plain rfl rfl rfl (w_addi rfl (ev_tmp rfl) ev_ci (by first | omega | ((try simp only [List.length_map, List.length_take, List.length_cons, List.length_nil, chunks_len, szR] at *); omega) | (have hc2 := hc; simp only [Bool.and_eq_true, Bool.or_eq_true, Bool.or_eq_false_iff, Bool.and_eq_false_iff, Bool.not_eq_true', Bool.not_eq_false', decide_eq_true_eq, decide_eq_false_iff_not, beq_iff_eq, bne_iff_ne, List.length_map, List.length_take] at hc2; omega))) ?_
    refine sq_plain rfl rfl rfl (w_move rfl (ev_tmp rfl)) ?_
    refine sq_nil ?_
    refine round_end2 i v (i + 1) (x29) ?_ ?_ (Le.trans (le_pick [1, 2, 1, 0] rfl) (le_dropeq 2 (by rw [show putLS m.To ((pieceS m many).take (i + 1)) = putWS (putLS m.To ((pieceS m many).take i)) y from by rw [List.take_add_one, hy]; exact putLS_snoc _ _ _, show lastKey ((pieceS m many).take (i + 1)) m.Last = y.Key from lastKey_take hy]; rfl) ⟨rfl, rfl, rfl, rfl, rfl, rfl, rfl, trivial⟩))
    · omega
    · omega
  · intro h23
    have k23 := of_decide_eq_false h23; try simp only [List.length_map] at k23
    have hge : (pieceS m many).length ≤ i := by omega
    rw [List.take_of_length_le hge]
    refine awp_exit ?_
    refine awp_seq ?_
    refine awp_region ?_
    refine sq_plain rfl rfl rfl (w_fldBn 6 rfl Try.underlying27 rfl Try.sizeOf4 (ev_tmp rfl) rfl) ?_
    refine sq_plain rfl rfl rfl (w_loadB1 0 rfl (ev_tmp rfl) rfl Try.isAgg4 rfl) ?_
    refine sq_plain rfl rfl rfl (w_move rfl (ev_tmp rfl)) ?_
    refine sq_grd rfl rfl (guard_f rfl rfl rfl) (fun hc => w_move rfl (ev_tmp rfl)) ?_
    refine sq_grd rfl rfl (guard_f rfl rfl rfl) (fun hc => w_move rfl (ev_tmp rfl)) ?_
    refine sq_grd rfl rfl (guard_f rfl rfl rfl) (fun hc => w_llen rfl Try.underlying23 (ev_whn rfl hc)) ?_
    rw [show (List.map TWrite.cs (leftM m)).length = (leftM m).length from List.length_map _]
    refine sq_grd rfl rfl (guard_f rfl rfl rfl) (fun hc => w_eql rfl (ev_whn rfl hc) (ev_whn rfl hc)) ?_
    refine sq_plain rfl rfl rfl (w_or rfl (ev_tmp rfl) (evif_w rfl)) ?_
    refine sq_plain rfl rfl rfl (w_fldBn 6 rfl Try.underlying27 rfl Try.sizeOf4 (ev_tmp rfl) rfl) ?_
    refine sq_storeB1 0 rfl rfl rfl (ev_tmp rfl) (ev_tmp rfl) (as_bool _) rfl Try.sizeOf4 rfl ?_
    refine sq_nil ?_
    refine awp_seq ?_
    refine awp_region ?_
    refine sq_plain rfl rfl rfl (w_loadA 0 rfl (ev_tmp rfl) rfl Try.isAgg27 Try.sizeOf27 rfl) ?_
    refine sq_storeB0 2 rfl rfl rfl (ev_tmp rfl) (ev_tmp rfl) (as_agg _) rfl Try.sizeOf27 rfl ?_
    refine sq_nil ?_
    refine awp_ret ?_
    exact retG [3, 1] (x.1, v) (trivial) rfl (by rfl) (resR rfl (rv_cell (ys := _) 2 rfl rfl Try.isAgg27 Try.sizeOf27 rfl))
theorem l22Do_own (m : TMove) (x : Value × Value) (a : TMoveAct) (hs : m.size ≤ 131072) (hw : a.Write.size ≤ 131072) (ha : isMoveAct m a = true) : GSpec Try.prog 89 [AV.agg (TMove.ocs m x), AV.agg a.cs] (TMove.ow m x) (fun _ : Value × Value => True) (fun y => TMove.ow (doS m a).1 y) (fun y => AV.tup [AV.agg (TMove.ocs (doS m a).1 y), AV.bool (doS m a).2]) := by
  have hps := pieceMS_size m a.Many
  refine gspec_of_awp Try.func89 rfl Try.ntmps89 rfl ?_
  refine awp_seq ?_
  refine awp_region ?_
  refine sq_box rfl rfl rfl rfl (ev_tmp rfl) ?_
  intro b2
  refine sq_box rfl rfl rfl rfl (ev_tmp rfl) ?_
  intro b3
  refine sq_alloc rfl rfl rfl rfl Try.zeroValue27 rfl ?_
  intro b4
  refine sq_plain rfl rfl rfl (w_assign rfl ev_cb) ?_
  refine sq_nil ?_
  refine awp_seq ?_
  refine awp_block ?_
  refine awp_seq ?_
  refine awp_region ?_
  refine sq_plain rfl rfl rfl (w_fldBn 0 rfl Try.underlying39 rfl Try.sizeOf3 (ev_tmp rfl) rfl) ?_
  refine sq_plain rfl rfl rfl (w_loadB1 1 rfl (ev_tmp rfl) rfl Try.isAgg3 rfl) ?_
  refine sq_plain rfl rfl rfl (w_eql rfl (ev_tmp rfl) ev_ci) ?_
  refine sq_plain rfl rfl rfl (w_assign rfl (ev_tmp rfl)) ?_
  refine sq_nil ?_
  refine awp_cond (ev_tmp rfl) ?_ ?_
  · intro h7
    have k7 := eq_of_beqt h7; try simp only [List.length_map] at k7
    have he : doS m a = putMS m a.Write := by unfold doS; rw [if_pos (by simpa using h7)]
    rw [he]
    refine awp_seq ?_
    refine awp_region ?_
    refine sq_plain rfl rfl rfl (w_loadA 2 rfl (ev_tmp rfl) rfl Try.isAgg27 Try.sizeOf27 rfl) ?_
    refine sq_plain rfl rfl rfl (w_fldBn 1 rfl Try.underlying39 rfl Try.sizeOf37 (ev_tmp rfl) rfl) ?_
    refine sq_plain rfl rfl rfl (w_loadAP a.Write.cs 1 rfl (ev_tmp rfl) rfl Try.isAgg37 Try.sizeOf37 rfl rfl) ?_
    refine sq_callG [3, 3] rfl rfl rfl rfl Try.call164 rfl (l22Put_own m x a.Write hs hw) (evl_cons (ev_tmp rfl) (evl_cons (ev_tmp rfl) evl_nil)) rfl ?_
    intro x14 ok14
    refine sq_plain rfl rfl rfl (w_extract rfl (ev_tmp rfl) rfl) ?_
    refine sq_plain rfl rfl rfl (w_extract rfl (ev_tmp rfl) rfl) ?_
    refine sq_storeB0 2 rfl rfl rfl (ev_tmp rfl) (ev_tmp rfl) (as_agg _) rfl Try.sizeOf27 rfl ?_
    refine sq_plain rfl rfl rfl (w_assign rfl (ev_tmp rfl)) ?_
    refine sq_nil ?_
    refine awp_ret ?_
    exact retG [0, 0] (x14.1, x14.2) (trivial) rfl (by rfl) (resN rfl (by decide) (rv_cons (rv_cell (ys := _) 2 rfl rfl Try.isAgg27 Try.sizeOf27 rfl) (rv_cons (rv_tmp' rfl (by rfl)) rv_nil)))
  · intro h7
    have k7 := ne_of_beqf h7; try simp only [List.length_map] at k7
    refine awp_seq ?_
    refine awp_region ?_
    refine sq_plain rfl rfl rfl (w_fldBn 2 rfl Try.underlying27 rfl Try.sizeOf3 (ev_tmp rfl) rfl) ?_
    refine sq_plain rfl rfl rfl (w_loadB1 2 rfl (ev_tmp rfl) rfl Try.isAgg3 rfl) ?_
    refine sq_plain rfl rfl rfl (w_neq rfl (ev_tmp rfl) ev_ci) ?_
    refine sq_plain rfl rfl rfl (w_move rfl (ev_tmp rfl)) ?_
    refine sq_grd rfl rfl (guard_f rfl rfl rfl) (fun hc => w_fldBn 0 rfl Try.underlying39 rfl Try.sizeOf3 (ev_tmp rfl) rfl) ?_
    refine sq_grd rfl rfl (guard_f rfl rfl rfl) (fun hc => w_loadB1 1 rfl (ev_whn rfl hc) rfl Try.isAgg3 rfl) ?_
    refine sq_grd rfl rfl (guard_f rfl rfl rfl) (fun hc => w_eql rfl (ev_whn rfl hc) ev_ci) ?_
    refine sq_grd rfl rfl (guard_f rfl rfl rfl) (fun hc => w_move rfl (ev_whn rfl hc)) ?_
    refine sq_grd rfl rfl (guard_wt rfl rfl rfl) (fun hc => w_fldBn 6 rfl Try.underlying27 rfl Try.sizeOf4 (ev_tmp rfl) rfl) ?_
    refine sq_grd rfl rfl (guard_wt rfl rfl rfl) (fun hc => w_loadB1 2 rfl (ev_whn rfl hc) rfl Try.isAgg4 rfl) ?_
    refine sq_grd rfl rfl (guard_wt rfl rfl rfl) (fun hc => w_not rfl (ev_whn rfl hc)) ?_
    refine sq_grd rfl rfl (guard_f rfl rfl rfl) (fun hc => w_and rfl (ev_whn rfl hc) (evif_w2 rfl hc)) ?_
    refine sq_plain rfl rfl rfl (w_or rfl (ev_tmp rfl) (evif_w rfl)) ?_
    refine sq_plain rfl rfl rfl (w_assign rfl (ev_tmp rfl)) ?_
    refine sq_nil ?_
    refine awp_cond (ev_tmp rfl) ?_ ?_
    · intro h17
      have he : doS m a = (m, false) := by unfold doS; rw [if_neg (by simpa using h7), if_pos h17]
      rw [he]
      refine awp_seq ?_
      refine awp_region ?_
      refine sq_plain rfl rfl rfl (w_loadA 2 rfl (ev_tmp rfl) rfl Try.isAgg27 Try.sizeOf27 rfl) ?_
      refine sq_storeB0 0 rfl rfl rfl (ev_tmp rfl) (ev_tmp rfl) (as_agg _) rfl Try.sizeOf27 rfl ?_
      refine sq_plain rfl rfl rfl (w_assign rfl ev_cb) ?_
      refine sq_nil ?_
      refine awp_ret ?_
      exact retG [3, 3] (x.1, x.2) (trivial) rfl (by rfl) (resN rfl (by decide) (rv_cons (rv_cell (ys := _) 0 rfl rfl Try.isAgg27 Try.sizeOf27 rfl) (rv_cons (rv_tmp' rfl (by rfl)) rv_nil)))
    · intro h17
      refine awp_seq ?_
      refine awp_region ?_
      refine sq_plain rfl rfl rfl (w_fldBn 0 rfl Try.underlying39 rfl Try.sizeOf3 (ev_tmp rfl) rfl) ?_
      refine sq_plain rfl rfl rfl (w_loadB1 1 rfl (ev_tmp rfl) rfl Try.isAgg3 rfl) ?_
      refine sq_plain rfl rfl rfl (w_eql rfl (ev_tmp rfl) ev_ci) ?_
      refine sq_plain rfl rfl rfl (w_assign rfl (ev_tmp rfl)) ?_
      refine sq_nil ?_
      refine awp_cond (ev_tmp rfl) ?_ ?_
      · intro h32
        have k32 := eq_of_beqt h32; try simp only [List.length_map] at k32
        have he : doS m a = (pieceMS m a.Many, goodMoveS (pieceMS m a.Many)) := by unfold doS; rw [if_neg (by simpa using h7), if_neg (by rw [h17]; decide), if_pos (by simpa using h32)]
        rw [he]
        have hm := act_many ha (by simpa using h32)
        refine awp_seq ?_
        refine awp_region ?_
        refine sq_plain rfl rfl rfl (w_loadA 2 rfl (ev_tmp rfl) rfl Try.isAgg27 Try.sizeOf27 rfl) ?_
        refine sq_plain rfl rfl rfl (w_fldBn 4 rfl Try.underlying39 rfl Try.sizeOf3 (ev_tmp rfl) rfl) ?_
        refine sq_plain rfl rfl rfl (w_loadB1 1 rfl (ev_tmp rfl) rfl Try.isAgg3 rfl) ?_
        refine sq_callG [3, 3] rfl rfl rfl rfl Try.call165 rfl (l22Piece_own m x a.Many hs hm) (evl_cons (ev_tmp rfl) (evl_cons (ev_tmp rfl) evl_nil)) rfl ?_
        intro x39 ok39
        refine sq_alloc rfl rfl rfl rfl Try.zeroValue27 rfl ?_
        intro b6
        refine sq_storeB0 0 rfl rfl rfl (ev_tmp rfl) (ev_tmp rfl) (as_agg _) rfl Try.sizeOf27 rfl ?_
        refine sq_nil ?_
        refine awp_seq ?_
        refine awp_region_tail 3 (by kernel_rfl) (by kernel_rfl) rfl ?_
        refine ch_plain rfl rfl (w_loadA 0 rfl (ev_tmp rfl) rfl Try.isAgg27 Try.sizeOf27 rfl) ?_
        refine ch_plain rfl rfl (w_loadA 0 rfl (ev_tmp rfl) rfl Try.isAgg27 Try.sizeOf27 rfl) ?_
        refine ch_plain rfl rfl (w_callB rfl Try.call76 rfl (goodMoveS_spec (pieceMS m a.Many) (by omega)) (flat_bool _) (evlb_cons (evb_lt (ev_tmp rfl) (lt_agg (lc_cons lt_refl (lc_cons lt_refl (lc_cons lt_refl (lc_cons (lt_arr (List.mem_of_getElem? (i := 1) rfl) le_refl_e) (lc_cons (lt_arr (List.mem_of_getElem? (i := 2) rfl) le_refl_e) (lc_cons lt_refl (lc_cons lt_refl lc_nil))))))))) evlb_nil)) ?_
        refine ch_nil ?_
        refine sq_storeB0 3 rfl rfl rfl (ev_tmp rfl) (ev_tmp rfl) (as_agg _) rfl Try.sizeOf27 rfl ?_
        refine sq_plain rfl rfl rfl (w_assign rfl (ev_tmp rfl)) ?_
        refine sq_nil ?_
        refine awp_ret ?_
        exact retG [1, 1] (x39.1, x39.2) (trivial) rfl (by rfl) (resN rfl (by decide) (rv_cons (rv_cell (ys := _) 3 rfl rfl Try.isAgg27 Try.sizeOf27 rfl) (rv_cons (rv_tmp' rfl (by rfl)) rv_nil)))
      · intro h32
        have k32 := ne_of_beqf h32; try simp only [List.length_map] at k32
        refine awp_seq ?_
        refine awp_region ?_
        refine sq_plain rfl rfl rfl (w_fldBn 0 rfl Try.underlying39 rfl Try.sizeOf3 (ev_tmp rfl) rfl) ?_
        refine sq_plain rfl rfl rfl (w_loadB1 1 rfl (ev_tmp rfl) rfl Try.isAgg3 rfl) ?_
        refine sq_plain rfl rfl rfl (w_eql rfl (ev_tmp rfl) ev_ci) ?_
        refine sq_plain rfl rfl rfl (w_assign rfl (ev_tmp rfl)) ?_
        refine sq_nil ?_
        refine awp_cond (ev_tmp rfl) ?_ ?_
        · intro h43
          have k43 := eq_of_beqt h43; try simp only [List.length_map] at k43
          have he : doS m a = (⟨m.Low, m.High, 2, [], m.To, [], false⟩, true) := by unfold doS; rw [if_neg (by simpa using h7), if_neg (by rw [h17]; decide), if_neg (by simpa using h32), if_pos (by simpa using h43)]
          rw [he]
          refine awp_seq ?_
          refine awp_region ?_
          refine sq_plain rfl rfl rfl (w_fldBn 0 rfl Try.underlying27 rfl Try.sizeOf9 (ev_tmp rfl) rfl) ?_
          refine sq_plain rfl rfl rfl (w_loadB1 2 rfl (ev_tmp rfl) rfl Try.isAgg9 rfl) ?_
          refine sq_plain rfl rfl rfl (w_fldBn 1 rfl Try.underlying27 rfl Try.sizeOf9 (ev_tmp rfl) rfl) ?_
          refine sq_plain rfl rfl rfl (w_loadB1 2 rfl (ev_tmp rfl) rfl Try.isAgg9 rfl) ?_
          refine sq_plain rfl rfl rfl (w_fldBn 4 rfl Try.underlying27 rfl Try.sizeOf23 (ev_tmp rfl) rfl) ?_
          refine sq_plain rfl rfl rfl (w_loadB1 2 rfl (ev_tmp rfl) rfl Try.isAgg23 rfl) ?_
          refine sq_fact 4 rfl fun one_x_2 => ?_
          refine sq_plain rfl rfl rfl (w_build (places := #[(0, 1), (1, 1), (2, 1), (3, 1), (4, 1), (5, 1), (6, 1)]) rfl Try.underlying27 Try.zeroValue27 (fun w => by kernel_rfl) rfl (bp_cons (ev_tmp rfl) (as_str _) (bp_cons (ev_tmp rfl) (as_str _) (bp_cons ev_ci (as_ik _ _) (bp_cons (ev_tmp rfl) (as_is one_x_2) bp_nil)))) rfl) ?_
          refine sq_storeB0 0 rfl rfl rfl (ev_tmp rfl) (ev_tmp rfl) (as_agg _) rfl Try.sizeOf27 rfl ?_
          refine sq_plain rfl rfl rfl (w_assign rfl ev_cb) ?_
          refine sq_nil ?_
          refine awp_ret ?_
          refine retG_nil 37 3 ?_
          exact retG [0, 4] ((Value.slice none 0 0), x.2) (trivial) rfl (by rfl) (resN rfl (by decide) (rv_cons (rv_cell (ys := _) 1 rfl rfl Try.isAgg27 Try.sizeOf27 rfl) (rv_cons (rv_tmp' rfl (by rfl)) rv_nil)))
        · intro h43
          have k43 := ne_of_beqf h43; try simp only [List.length_map] at k43
          have he : doS m a = (⟨m.Low, m.High, 1, m.From, [], [], false⟩, true) := by unfold doS; rw [if_neg (by simpa using h7), if_neg (by rw [h17]; decide), if_neg (by simpa using h32), if_neg (by simpa using h43)]
          rw [he]
          refine awp_skip ?_
          refine awp_seq ?_
          refine awp_region ?_
          refine sq_plain rfl rfl rfl (w_fldBn 0 rfl Try.underlying27 rfl Try.sizeOf9 (ev_tmp rfl) rfl) ?_
          refine sq_plain rfl rfl rfl (w_loadB1 2 rfl (ev_tmp rfl) rfl Try.isAgg9 rfl) ?_
          refine sq_plain rfl rfl rfl (w_fldBn 1 rfl Try.underlying27 rfl Try.sizeOf9 (ev_tmp rfl) rfl) ?_
          refine sq_plain rfl rfl rfl (w_loadB1 2 rfl (ev_tmp rfl) rfl Try.isAgg9 rfl) ?_
          refine sq_plain rfl rfl rfl (w_fldBn 3 rfl Try.underlying27 rfl Try.sizeOf23 (ev_tmp rfl) rfl) ?_
          refine sq_plain rfl rfl rfl (w_loadB1 2 rfl (ev_tmp rfl) rfl Try.isAgg23 rfl) ?_
          refine sq_fact 3 rfl fun one_x_1 => ?_
          refine sq_plain rfl rfl rfl (w_build (places := #[(0, 1), (1, 1), (2, 1), (3, 1), (4, 1), (5, 1), (6, 1)]) rfl Try.underlying27 Try.zeroValue27 (fun w => by kernel_rfl) rfl (bp_cons (ev_tmp rfl) (as_str _) (bp_cons (ev_tmp rfl) (as_str _) (bp_cons ev_ci (as_ik _ _) (bp_cons (ev_tmp rfl) (as_is one_x_1) bp_nil)))) rfl) ?_
          refine sq_storeB0 0 rfl rfl rfl (ev_tmp rfl) (ev_tmp rfl) (as_agg _) rfl Try.sizeOf27 rfl ?_
          refine sq_plain rfl rfl rfl (w_assign rfl ev_cb) ?_
          refine sq_nil ?_
          refine awp_ret ?_
          refine retG_nil 37 3 ?_
          exact retG [4, 0] (x.1, (Value.slice none 0 0)) (trivial) rfl (by rfl) (resN rfl (by decide) (rv_cons (rv_cell (ys := _) 1 rfl rfl Try.isAgg27 Try.sizeOf27 rfl) (rv_cons (rv_tmp' rfl (by rfl)) rv_nil)))
end Go.Proofs.Ytdbmaekdejhobaa
