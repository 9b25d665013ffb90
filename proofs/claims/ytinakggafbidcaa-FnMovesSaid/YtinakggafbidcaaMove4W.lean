/- Walks: migrations begun and copied. -/
import Derived.Test.YtinakggafbidcaaMove4M
import Derived.Test.YtinakggafbidcaaMove3W
import Derived.Test.YtinakggafbidcaaMarkW
set_option linter.unusedVariables false
set_option linter.unusedSimpArgs false
set_option maxRecDepth 100000
namespace Go.Proofs.Ytinakggafbidcaa
open Go Go.AV Go.M
attribute [local irreducible] OpW OpA OpS AWP FSpec ESpec GSpec OpE RetOk RetOkG RvDen Le Ev GuardIs
theorem isCopied1_spec (m : TMove) (w : TWrite) : FSpec Try.prog 82 [AV.agg w.cs, AV.eptr m.cs] (AV.bool (cpDel m w)) := by
  refine spec_of_awp Try.func82 rfl Try.ntmps82 rfl ?_
  refine awp_seq ?_
  refine awp_region ?_
  refine sq_box rfl rfl rfl rfl (ev_tmp rfl) ?_
  intro b2
  refine sq_plain rfl rfl rfl (w_assign rfl ev_cb) ?_
  refine sq_nil ?_
  refine awp_seq ?_
  refine awp_region ?_
  refine sq_plain rfl rfl rfl (w_fldE rfl Try.underlying33 rfl Try.sizeOf4 (ev_tmp rfl) rfl) ?_
  refine sq_plain rfl rfl rfl (w_loadE1 rfl (ev_tmp rfl) Try.isAgg4 rfl) ?_
  refine sq_plain rfl rfl rfl (w_not rfl (ev_tmp rfl)) ?_
  refine sq_plain rfl rfl rfl (w_move rfl (ev_tmp rfl)) ?_
  refine sq_grd rfl rfl (guard_t rfl rfl rfl) (fun hc => w_fldBn 0 rfl Try.underlying37 rfl Try.sizeOf9 (ev_tmp rfl) rfl) ?_
  refine sq_grd rfl rfl (guard_t rfl rfl rfl) (fun hc => w_loadB1 0 rfl (ev_whn rfl hc) rfl Try.isAgg9 rfl) ?_
  refine sq_grd rfl rfl (guard_t rfl rfl rfl) (fun hc => w_fldE rfl Try.underlying33 rfl Try.sizeOf9 (ev_tmp rfl) rfl) ?_
  refine sq_grd rfl rfl (guard_t rfl rfl rfl) (fun hc => w_loadE1 rfl (ev_whn rfl hc) Try.isAgg9 rfl) ?_
  refine sq_grd rfl rfl (guard_t rfl rfl rfl) (fun hc => w_sgtr rfl (ev_whn rfl hc) (ev_whn rfl hc)) ?_
  refine sq_plain rfl rfl rfl (w_and rfl (ev_tmp rfl) (evif_w rfl)) ?_
  refine sq_plain rfl rfl rfl (w_assign rfl (ev_tmp rfl)) ?_
  refine sq_nil ?_
  refine awp_ret ?_
  exact retR rfl (rv_tmp' rfl (by first | rfl | (refine congrArg AV.bool ?_; simp_all; done)))
theorem isCopied_spec (m : TMove) (hs : m.size ≤ 1048576) : FSpec Try.prog 39 [AV.agg m.cs] (AV.tup [AV.bool (isCopied m).1, AV.bool (isCopied m).2]) := by
  have hs' := hs; unfold TMove.size at hs'
  have hf : m.From.length ≤ 4194304 := Nat.le_trans sizeL_len (show sizeL TWrite.size m.From ≤ 4194304 by omega)
  refine spec_of_awp Try.func39 rfl Try.ntmps39 rfl ?_
  refine awp_seq ?_
  refine awp_region ?_
  refine sq_box rfl rfl rfl rfl (ev_tmp rfl) ?_
  intro b1
  refine sq_plain rfl rfl rfl (w_assign rfl ev_cb) ?_
  refine sq_plain rfl rfl rfl (w_assign rfl ev_cb) ?_
  refine sq_nil ?_
  refine awp_seq ?_
  refine awp_seq ?_
  refine awp_region ?_
  refine sq_plain rfl rfl rfl (w_loadA 0 rfl (ev_tmp rfl) rfl Try.isAgg33 Try.sizeOf33 rfl) ?_
  refine sq_plain rfl rfl rfl (w_call rfl Try.call43 rfl (goodMove_spec _ (by first | assumption | omega)) (evl_cons (ev_tmp rfl) evl_nil)) ?_
  refine sq_plain rfl rfl rfl (w_not rfl (ev_tmp rfl)) ?_
  refine sq_nil ?_
  refine awp_cond (ev_tmp rfl) ?_ ?_
  · intro h7
    have he : isCopied m = (false, false) := by unfold isCopied; rw [if_pos h7]
    rw [he]
    refine awp_seq ?_
    refine awp_region ?_
    refine sq_plain rfl rfl rfl (w_assign rfl ev_cb) ?_
    refine sq_plain rfl rfl rfl (w_assign rfl ev_cb) ?_
    refine sq_nil ?_
    refine awp_ret ?_
    exact retN rfl (by decide) (rv_cons (rv_tmp' rfl (by first | rfl | (refine congrArg AV.bool ?_; simp_all; done))) (rv_cons (rv_tmp' rfl (by first | rfl | (refine congrArg AV.bool ?_; simp_all; done))) rv_nil))
  · intro h7
    have he : isCopied m = ((m.Phase == 2) || decide (m.From.filter (fun w => !cpDel m w) = m.To), true) := by unfold isCopied; rw [if_neg (by rw [h7]; decide)]
    rw [he]
    refine awp_skip ?_
    refine awp_seq ?_
    refine awp_region ?_
    refine sq_plain rfl rfl rfl (w_fldBn 3 rfl Try.underlying33 rfl Try.sizeOf31 (ev_tmp rfl) rfl) ?_
    refine sq_plain rfl rfl rfl (w_loadB1 0 rfl (ev_tmp rfl) rfl Try.isAgg31 rfl) ?_
    refine sq_callG [] rfl rfl rfl rfl Try.call81 rfl (cloneWrite_spec _ (by first | assumption | omega)) (evl_cons (ev_tmp rfl) evl_nil) rfl ?_
    intro x10 ok10
    refine sq_plain rfl rfl rfl (w_clo rfl rfl (evl_cons (ev_tmp rfl) evl_nil)) ?_
    refine sq_callGB [0] rfl rfl rfl rfl Try.call80 rfl (deleteFuncWrite_own _ _ _ _ (by first | (intros; trivial) | assumption | (intros; first | trivial | (simp_all; done))) (by first | assumption | omega)) rfl (evlb_cons (evb (ev_tmp rfl)) (evlb_cons (evb_weaken (evb_clo1 0 (ev_tmp rfl) rfl) (clo_fun1 Try.call82 (fun w (_ : True) => isCopied1_spec _ w))) evlb_nil)) (by first | exact flatO_nil | (intro _; exact flatO_nil) | (intro _; first | exact flat_is _ | exact flat_ik _ _ | exact flat_bool _ | exact flat_str _ | exact flat_nils) | (intro _; refine flat_tup ?_; (repeat (first | exact flatl_nil | (refine flatl_cons (by first | (first | exact flat_is _ | exact flat_ik _ _ | exact flat_bool _ | exact flat_str _ | exact flat_nils) | (refine flat_agg ?_; (repeat (first | exact flatl_nil | (refine flatl_cons (by first | exact flat_is _ | exact flat_ik _ _ | exact flat_bool _ | exact flat_str _ | exact flat_nils) ?_))))) ?_))); done) | (intro _; refine flat_agg ?_; (repeat (first | exact flatl_nil | (refine flatl_cons (by first | exact flat_is _ | exact flat_ik _ _ | exact flat_bool _ | exact flat_str _ | exact flat_nils) ?_))); done) | ((repeat (first | exact flatO_nil | (refine flatO_cons (flatO_box ?_) ?_; (repeat (first | exact flatl_nil | (refine flatl_cons (by first | exact flat_is _ | exact flat_ik _ _ | exact flat_bool _ | exact flat_str _ | exact flat_nils) ?_)))) | (refine flatO_cons (flatO_arr ?_) ?_; (repeat (first | exact flate_nil | (refine flate_map (fun _ => ?_); (first | exact TWrite.flat _ | exact TFeedItem.flat _ | exact TIdx.flat _ | exact TVer.flat _ | (repeat (first | exact flatl_nil | (refine flatl_cons (by first | exact flat_is _ | exact flat_ik _ _ | exact flat_bool _ | exact flat_str _ | exact flat_nils) ?_))))) | (refine flate_rep ?_; (first | exact TWrite.flat _ | exact TFeedItem.flat _ | exact TIdx.flat _ | exact TVer.flat _ | (repeat (first | exact flatl_nil | (refine flatl_cons (by first | exact flat_is _ | exact flat_ik _ _ | exact flat_bool _ | exact flat_str _ | exact flat_nils) ?_))))) | (refine flate_cons ?_ ?_; (first | exact TWrite.flat _ | exact TFeedItem.flat _ | exact TIdx.flat _ | exact TVer.flat _ | (repeat (first | exact flatl_nil | (refine flatl_cons (by first | exact flat_is _ | exact flat_ik _ _ | exact flat_bool _ | exact flat_str _ | exact flat_nils) ?_))))) | refine flate_app ?_ ?_))))); done) | (intro _; (repeat (first | exact flatO_nil | (refine flatO_cons (flatO_box ?_) ?_; (repeat (first | exact flatl_nil | (refine flatl_cons (by first | exact flat_is _ | exact flat_ik _ _ | exact flat_bool _ | exact flat_str _ | exact flat_nils) ?_)))) | (refine flatO_cons (flatO_arr ?_) ?_; (repeat (first | exact flate_nil | (refine flate_map (fun _ => ?_); (first | exact TWrite.flat _ | exact TFeedItem.flat _ | exact TIdx.flat _ | exact TVer.flat _ | (repeat (first | exact flatl_nil | (refine flatl_cons (by first | exact flat_is _ | exact flat_ik _ _ | exact flat_bool _ | exact flat_str _ | exact flat_nils) ?_))))) | (refine flate_rep ?_; (first | exact TWrite.flat _ | exact TFeedItem.flat _ | exact TIdx.flat _ | exact TVer.flat _ | (repeat (first | exact flatl_nil | (refine flatl_cons (by first | exact flat_is _ | exact flat_ik _ _ | exact flat_bool _ | exact flat_str _ | exact flat_nils) ?_))))) | (refine flate_cons ?_ ?_; (first | exact TWrite.flat _ | exact TFeedItem.flat _ | exact TIdx.flat _ | exact TVer.flat _ | (repeat (first | exact flatl_nil | (refine flatl_cons (by first | exact flat_is _ | exact flat_ik _ _ | exact flat_bool _ | exact flat_str _ | exact flat_nils) ?_))))) | refine flate_app ?_ ?_))))); done)) (by first | exact flatO_nil | (intro _; exact flatO_nil) | (intro _; first | exact flat_is _ | exact flat_ik _ _ | exact flat_bool _ | exact flat_str _ | exact flat_nils) | (intro _; refine flat_tup ?_; (repeat (first | exact flatl_nil | (refine flatl_cons (by first | (first | exact flat_is _ | exact flat_ik _ _ | exact flat_bool _ | exact flat_str _ | exact flat_nils) | (refine flat_agg ?_; (repeat (first | exact flatl_nil | (refine flatl_cons (by first | exact flat_is _ | exact flat_ik _ _ | exact flat_bool _ | exact flat_str _ | exact flat_nils) ?_))))) ?_))); done) | (intro _; refine flat_agg ?_; (repeat (first | exact flatl_nil | (refine flatl_cons (by first | exact flat_is _ | exact flat_ik _ _ | exact flat_bool _ | exact flat_str _ | exact flat_nils) ?_))); done) | ((repeat (first | exact flatO_nil | (refine flatO_cons (flatO_box ?_) ?_; (repeat (first | exact flatl_nil | (refine flatl_cons (by first | exact flat_is _ | exact flat_ik _ _ | exact flat_bool _ | exact flat_str _ | exact flat_nils) ?_)))) | (refine flatO_cons (flatO_arr ?_) ?_; (repeat (first | exact flate_nil | (refine flate_map (fun _ => ?_); (first | exact TWrite.flat _ | exact TFeedItem.flat _ | exact TIdx.flat _ | exact TVer.flat _ | (repeat (first | exact flatl_nil | (refine flatl_cons (by first | exact flat_is _ | exact flat_ik _ _ | exact flat_bool _ | exact flat_str _ | exact flat_nils) ?_))))) | (refine flate_rep ?_; (first | exact TWrite.flat _ | exact TFeedItem.flat _ | exact TIdx.flat _ | exact TVer.flat _ | (repeat (first | exact flatl_nil | (refine flatl_cons (by first | exact flat_is _ | exact flat_ik _ _ | exact flat_bool _ | exact flat_str _ | exact flat_nils) ?_))))) | (refine flate_cons ?_ ?_; (first | exact TWrite.flat _ | exact TFeedItem.flat _ | exact TIdx.flat _ | exact TVer.flat _ | (repeat (first | exact flatl_nil | (refine flatl_cons (by first | exact flat_is _ | exact flat_ik _ _ | exact flat_bool _ | exact flat_str _ | exact flat_nils) ?_))))) | refine flate_app ?_ ?_))))); done) | (intro _; (repeat (first | exact flatO_nil | (refine flatO_cons (flatO_box ?_) ?_; (repeat (first | exact flatl_nil | (refine flatl_cons (by first | exact flat_is _ | exact flat_ik _ _ | exact flat_bool _ | exact flat_str _ | exact flat_nils) ?_)))) | (refine flatO_cons (flatO_arr ?_) ?_; (repeat (first | exact flate_nil | (refine flate_map (fun _ => ?_); (first | exact TWrite.flat _ | exact TFeedItem.flat _ | exact TIdx.flat _ | exact TVer.flat _ | (repeat (first | exact flatl_nil | (refine flatl_cons (by first | exact flat_is _ | exact flat_ik _ _ | exact flat_bool _ | exact flat_str _ | exact flat_nils) ?_))))) | (refine flate_rep ?_; (first | exact TWrite.flat _ | exact TFeedItem.flat _ | exact TIdx.flat _ | exact TVer.flat _ | (repeat (first | exact flatl_nil | (refine flatl_cons (by first | exact flat_is _ | exact flat_ik _ _ | exact flat_bool _ | exact flat_str _ | exact flat_nils) ?_))))) | (refine flate_cons ?_ ?_; (first | exact TWrite.flat _ | exact TFeedItem.flat _ | exact TIdx.flat _ | exact TVer.flat _ | (repeat (first | exact flatl_nil | (refine flatl_cons (by first | exact flat_is _ | exact flat_ik _ _ | exact flat_bool _ | exact flat_str _ | exact flat_nils) ?_))))) | refine flate_app ?_ ?_))))); done)) (by first | exact flatO_nil | (intro _; exact flatO_nil) | (intro _; first | exact flat_is _ | exact flat_ik _ _ | exact flat_bool _ | exact flat_str _ | exact flat_nils) | (intro _; refine flat_tup ?_; (repeat (first | exact flatl_nil | (refine flatl_cons (by first | (first | exact flat_is _ | exact flat_ik _ _ | exact flat_bool _ | exact flat_str _ | exact flat_nils) | (refine flat_agg ?_; (repeat (first | exact flatl_nil | (refine flatl_cons (by first | exact flat_is _ | exact flat_ik _ _ | exact flat_bool _ | exact flat_str _ | exact flat_nils) ?_))))) ?_))); done) | (intro _; refine flat_agg ?_; (repeat (first | exact flatl_nil | (refine flatl_cons (by first | exact flat_is _ | exact flat_ik _ _ | exact flat_bool _ | exact flat_str _ | exact flat_nils) ?_))); done) | ((repeat (first | exact flatO_nil | (refine flatO_cons (flatO_box ?_) ?_; (repeat (first | exact flatl_nil | (refine flatl_cons (by first | exact flat_is _ | exact flat_ik _ _ | exact flat_bool _ | exact flat_str _ | exact flat_nils) ?_)))) | (refine flatO_cons (flatO_arr ?_) ?_; (repeat (first | exact flate_nil | (refine flate_map (fun _ => ?_); (first | exact TWrite.flat _ | exact TFeedItem.flat _ | exact TIdx.flat _ | exact TVer.flat _ | (repeat (first | exact flatl_nil | (refine flatl_cons (by first | exact flat_is _ | exact flat_ik _ _ | exact flat_bool _ | exact flat_str _ | exact flat_nils) ?_))))) | (refine flate_rep ?_; (first | exact TWrite.flat _ | exact TFeedItem.flat _ | exact TIdx.flat _ | exact TVer.flat _ | (repeat (first | exact flatl_nil | (refine flatl_cons (by first | exact flat_is _ | exact flat_ik _ _ | exact flat_bool _ | exact flat_str _ | exact flat_nils) ?_))))) | (refine flate_cons ?_ ?_; (first | exact TWrite.flat _ | exact TFeedItem.flat _ | exact TIdx.flat _ | exact TVer.flat _ | (repeat (first | exact flatl_nil | (refine flatl_cons (by first | exact flat_is _ | exact flat_ik _ _ | exact flat_bool _ | exact flat_str _ | exact flat_nils) ?_))))) | refine flate_app ?_ ?_))))); done) | (intro _; (repeat (first | exact flatO_nil | (refine flatO_cons (flatO_box ?_) ?_; (repeat (first | exact flatl_nil | (refine flatl_cons (by first | exact flat_is _ | exact flat_ik _ _ | exact flat_bool _ | exact flat_str _ | exact flat_nils) ?_)))) | (refine flatO_cons (flatO_arr ?_) ?_; (repeat (first | exact flate_nil | (refine flate_map (fun _ => ?_); (first | exact TWrite.flat _ | exact TFeedItem.flat _ | exact TIdx.flat _ | exact TVer.flat _ | (repeat (first | exact flatl_nil | (refine flatl_cons (by first | exact flat_is _ | exact flat_ik _ _ | exact flat_bool _ | exact flat_str _ | exact flat_nils) ?_))))) | (refine flate_rep ?_; (first | exact TWrite.flat _ | exact TFeedItem.flat _ | exact TIdx.flat _ | exact TVer.flat _ | (repeat (first | exact flatl_nil | (refine flatl_cons (by first | exact flat_is _ | exact flat_ik _ _ | exact flat_bool _ | exact flat_str _ | exact flat_nils) ?_))))) | (refine flate_cons ?_ ?_; (first | exact TWrite.flat _ | exact TFeedItem.flat _ | exact TIdx.flat _ | exact TVer.flat _ | (repeat (first | exact flatl_nil | (refine flatl_cons (by first | exact flat_is _ | exact flat_ik _ _ | exact flat_bool _ | exact flat_str _ | exact flat_nils) ?_))))) | refine flate_app ?_ ?_))))); done)) ?_
    intro x12 ok12
    refine sq_plain rfl rfl rfl (w_assign rfl (ev_tmp rfl)) ?_
    refine sq_nil ?_
    refine awp_seq ?_
    refine awp_region ?_
    refine sq_plain rfl rfl rfl (w_fldBn 2 rfl Try.underlying33 rfl Try.sizeOf3 (ev_tmp rfl) rfl) ?_
    refine sq_plain rfl rfl rfl (w_loadB1 1 rfl (ev_tmp rfl) rfl Try.isAgg3 rfl) ?_
    refine sq_plain rfl rfl rfl (w_eql rfl (ev_tmp rfl) ev_ci) ?_
    refine sq_plain rfl rfl rfl (w_move rfl (ev_tmp rfl)) ?_
    refine sq_grd rfl rfl (guard_f rfl rfl rfl) (fun hc => w_move rfl (ev_tmp rfl)) ?_
    refine sq_grd rfl rfl (guard_f rfl rfl rfl) (fun hc => w_fldBn 4 rfl Try.underlying33 rfl Try.sizeOf31 (ev_tmp rfl) rfl) ?_
    refine sq_grd rfl rfl (guard_f rfl rfl rfl) (fun hc => w_loadB1 1 rfl (ev_whn rfl hc) rfl Try.isAgg31 rfl) ?_
    refine sq_grd rfl rfl (guard_f rfl rfl rfl) (fun hc => w_callB rfl Try.call83 rfl (equalWrite_spec _ _) (flat_bool _) (evlb_cons (evb_arr 0 (ev_whn rfl hc) rfl) (evlb_cons (evb (ev_whn rfl hc)) evlb_nil))) ?_
    refine sq_plain rfl rfl rfl (w_or rfl (ev_tmp rfl) (evif_w rfl)) ?_
    refine sq_plain rfl rfl rfl (w_assign rfl (ev_tmp rfl)) ?_
    refine sq_plain rfl rfl rfl (w_assign rfl ev_cb) ?_
    refine sq_nil ?_
    refine awp_ret ?_
    exact retN rfl (by decide) (rv_cons (rv_tmp' rfl (by first | rfl | (refine congrArg AV.bool ?_; simp_all; done))) (rv_cons (rv_tmp' rfl (by first | rfl | (refine congrArg AV.bool ?_; simp_all; done))) rv_nil))
theorem l22Copied_spec (m : TMove) (hs : m.size ≤ 1048576) : FSpec Try.prog 84 [AV.agg m.cs] (AV.bool (l22Copied m)) := by
  have hs' := hs; unfold TMove.size at hs'
  have ht : m.To.length ≤ 4194304 := Nat.le_trans sizeL_len (show sizeL TWrite.size m.To ≤ 4194304 by omega)
  have hf : m.From.length ≤ 4194304 := Nat.le_trans sizeL_len (show sizeL TWrite.size m.From ≤ 4194304 by omega)
  refine spec_of_awp Try.func84 rfl Try.ntmps84 rfl ?_
  refine awp_seq ?_
  refine awp_region ?_
  refine sq_box rfl rfl rfl rfl (ev_tmp rfl) ?_
  intro b1
  refine sq_plain rfl rfl rfl (w_assign rfl ev_cb) ?_
  refine sq_nil ?_
  refine awp_seq ?_
  refine awp_seq ?_
  refine awp_region ?_
  refine sq_plain rfl rfl rfl (w_fldBn 2 rfl Try.underlying33 rfl Try.sizeOf3 (ev_tmp rfl) rfl) ?_
  refine sq_plain rfl rfl rfl (w_loadB1 0 rfl (ev_tmp rfl) rfl Try.isAgg3 rfl) ?_
  refine sq_plain rfl rfl rfl (w_eql rfl (ev_tmp rfl) ev_ci) ?_
  refine sq_nil ?_
  refine awp_cond (ev_tmp rfl) ?_ ?_
  · intro h9
    have k9 := eq_of_beqt h9; try simp only [List.length_map] at k9
    have he : l22Copied m = true := by unfold l22Copied; rw [if_pos k9]
    rw [he]
    refine awp_seq ?_
    refine awp_region ?_
    refine sq_plain rfl rfl rfl (w_assign rfl ev_cb) ?_
    refine sq_nil ?_
    refine awp_ret ?_
    exact retR rfl (rv_tmp' rfl (by first | rfl | exact congrArg AV.bool (by simp [hab])))
  · intro h9
    have k9 := ne_of_beqf h9; try simp only [List.length_map] at k9
    have he : l22Copied m = decide (m.From.filter (cpWant m) = m.To) := by unfold l22Copied; rw [if_neg k9]
    rw [he]
    refine awp_skip ?_
    refine awp_seq ?_
    refine awp_region ?_
    refine sq_nilarr 37 3 rfl rfl rfl rfl ev_cnils ?_
    intro v3
    refine sq_nil ?_
    refine awp_seq ?_
    refine awp_seq ?_
    refine awp_region ?_
    refine sq_plain rfl rfl rfl (w_fldBn 3 rfl Try.underlying33 rfl Try.sizeOf31 (ev_tmp rfl) rfl) ?_
    refine sq_plain rfl rfl rfl (w_loadB1 1 rfl (ev_tmp rfl) rfl Try.isAgg31 rfl) ?_
    refine sq_plain rfl rfl rfl (w_llen rfl Try.underlying31 (ev_tmp rfl)) ?_
    refine sq_plain rfl rfl rfl (w_move rfl ev_ci) ?_
    refine sq_nil ?_
    refine awp_block ?_
    refine awp_loop_i2 [(1, _), (2, _), (11, _), (12, _)] _ (fun (i : Nat) (v : Value) => i ≤ m.From.length) (fun (i : Nat) (v : Value) => [.arr v 37 3 (((m.From.take i).filter (cpWant m)).map TWrite.cs)]) (fun (i : Nat) (v : Value) => [(3, AV.is v), (13, AV.int i)]) (fun (i : Nat) (v : Value) => m.From.length - i) (0) (v3) ?_ (le_eq (by rfl) ⟨rfl, rfl, rfl, rfl, rfl, rfl, trivial⟩) ?_
    · exact Nat.zero_le _
    intro i v hinv
    refine awp_seq ?_
    refine awp_region ?_
    refine sq_plain rfl rfl rfl (w_lss rfl (ev_tmp rfl) (ev_tmp rfl)) ?_
    refine sq_nil ?_
    refine awp_seq ?_
    refine awp_cond (ev_tmp rfl) ?_ ?_
    · intro h14
      have k14 := of_decide_eq_true h14; try simp only [List.length_map] at k14
      have hlt : i < m.From.length := by omega
      obtain ⟨x, hx⟩ := get_some hlt
      have hfl : ((m.From.take i).filter (cpWant m)).length ≤ 4194304 := Nat.le_trans (List.length_filter_le _ _) (by simp; omega)
      refine awp_skip ?_
      refine awp_seq ?_
      refine awp_block ?_
      refine awp_seq ?_
      refine awp_region ?_
      refine sq_plain rfl rfl rfl (w_idxm rfl Try.underlying31 Try.sizeOf37 (ev_tmp rfl) (ev_tmp rfl) hx (by first | omega | ((try simp only [List.length_map, List.length_take, List.length_cons, List.length_nil, chunks_len, szR] at *); omega) | (have hc2 := hc; simp only [Bool.and_eq_true, Bool.or_eq_true, Bool.or_eq_false_iff, Bool.and_eq_false_iff, Bool.not_eq_true', Bool.not_eq_false', decide_eq_true_eq, decide_eq_false_iff_not, beq_iff_eq, bne_iff_ne, List.length_map, List.length_take] at hc2; omega))) ?_
      refine sq_plain rfl rfl rfl (w_loadE rfl (ev_tmp rfl) Try.isAgg37 Try.sizeOf37) ?_
      refine sq_alloc rfl rfl rfl rfl Try.zeroValue37 rfl ?_
      intro b5
      refine sq_storeB0 0 rfl rfl rfl (ev_tmp rfl) (ev_tmp rfl) (as_agg _) rfl Try.sizeOf37 rfl ?_
      refine sq_nil ?_
      refine awp_seq ?_
      refine awp_region ?_
      refine sq_plain rfl rfl rfl (w_fldBn 6 rfl Try.underlying33 rfl Try.sizeOf4 (ev_tmp rfl) rfl) ?_
      refine sq_plain rfl rfl rfl (w_loadB1 2 rfl (ev_tmp rfl) rfl Try.isAgg4 rfl) ?_
      refine sq_plain rfl rfl rfl (w_move rfl (ev_tmp rfl)) ?_
      refine sq_grd rfl rfl (guard_f rfl rfl rfl) (fun hc => w_fldBn 0 rfl Try.underlying37 rfl Try.sizeOf9 (ev_tmp rfl) rfl) ?_
      refine sq_grd rfl rfl (guard_f rfl rfl rfl) (fun hc => w_loadB1 0 rfl (ev_whn rfl hc) rfl Try.isAgg9 rfl) ?_
      refine sq_grd rfl rfl (guard_f rfl rfl rfl) (fun hc => w_fldBn 5 rfl Try.underlying33 rfl Try.sizeOf9 (ev_tmp rfl) rfl) ?_
      refine sq_grd rfl rfl (guard_f rfl rfl rfl) (fun hc => w_loadB1 2 rfl (ev_whn rfl hc) rfl Try.isAgg9 rfl) ?_
      refine sq_grd rfl rfl (guard_f rfl rfl rfl) (fun hc => w_sleq rfl (ev_whn rfl hc) (ev_whn rfl hc)) ?_
      refine sq_plain rfl rfl rfl (w_or rfl (ev_tmp rfl) (evif_w rfl)) ?_
      refine sq_nil ?_
      refine awp_cond (ev_tmp rfl) ?_ ?_
      · intro h25
        refine awp_region ?_
        refine sq_plain rfl rfl rfl (w_move rfl (ev_tmp rfl)) ?_
        refine sq_plain rfl rfl rfl (w_loadA 0 rfl (ev_tmp rfl) rfl Try.isAgg37 Try.sizeOf37 rfl) ?_
        refine sq_plain rfl rfl rfl (w_bslice rfl Try.underlying31 Try.sizeOf37 Try.zeroValue37 rfl rfl rfl rfl (bp_cons (ev_tmp rfl) (as_agg _) bp_nil) rfl rfl) ?_
        refine sq_append (by' := 40) 1 rfl rfl rfl rfl Try.underlying31 Try.type37 rfl rfl rfl rfl rfl rfl (ev_tmp rfl) (ev_tmp rfl) rfl (by first | omega | ((try simp only [List.length_map, List.length_take, List.length_cons, List.length_nil, chunks_len, szR] at *); omega) | (have hc2 := hc; simp only [Bool.and_eq_true, Bool.or_eq_true, Bool.or_eq_false_iff, Bool.and_eq_false_iff, Bool.not_eq_true', Bool.not_eq_false', decide_eq_true_eq, decide_eq_false_iff_not, beq_iff_eq, bne_iff_ne, List.length_map, List.length_take] at hc2; omega)) ?_
        intro v29_1
        refine sq_plain rfl rfl rfl (w_assign rfl (ev_tmp rfl)) ?_
        refine sq_nil ?_
        refine awp_region ?_
        refine sq_plain rfl rfl rfl (w_addi rfl (ev_tmp rfl) ev_ci (by first | omega | ((try simp only [List.length_map, List.length_take, List.length_cons, List.length_nil, chunks_len, szR] at *); omega) | (have hc2 := hc; simp only [Bool.and_eq_true, Bool.or_eq_true, Bool.or_eq_false_iff, Bool.and_eq_false_iff, Bool.not_eq_true', Bool.not_eq_false', decide_eq_true_eq, decide_eq_false_iff_not, beq_iff_eq, bne_iff_ne, List.length_map, List.length_take] at hc2; omega))) ?_
        refine sq_plain rfl rfl rfl (w_move rfl (ev_tmp rfl)) ?_
        refine sq_nil ?_
        refine round_end2 i v (i + 1) (v29_1) ?_ ?_ (le_dropeq 1 (by first | exact congrArg (fun z => Own.arr _ _ _ z :: _) (filt_keep (p := cpWant m) hx h25) | exact congrArg (fun z => Own.arr _ _ _ z :: _) (filt_skip (p := cpWant m) hx h25)) ⟨rfl, rfl, rfl, rfl, rfl, rfl, trivial⟩)
        · omega
        · omega
      · intro h25
        refine awp_skip ?_
        refine awp_region ?_
        refine sq_plain rfl rfl rfl (w_addi rfl (ev_tmp rfl) ev_ci (by first | omega | ((try simp only [List.length_map, List.length_take, List.length_cons, List.length_nil, chunks_len, szR] at *); omega) | (have hc2 := hc; simp only [Bool.and_eq_true, Bool.or_eq_true, Bool.or_eq_false_iff, Bool.and_eq_false_iff, Bool.not_eq_true', Bool.not_eq_false', decide_eq_true_eq, decide_eq_false_iff_not, beq_iff_eq, bne_iff_ne, List.length_map, List.length_take] at hc2; omega))) ?_
        refine sq_plain rfl rfl rfl (w_move rfl (ev_tmp rfl)) ?_
        refine sq_nil ?_
        refine round_end2 i v (i + 1) (v) ?_ ?_ (le_dropeq 1 (by first | exact congrArg (fun z => Own.arr _ _ _ z :: _) (filt_keep (p := cpWant m) hx h25) | exact congrArg (fun z => Own.arr _ _ _ z :: _) (filt_skip (p := cpWant m) hx h25)) ⟨rfl, rfl, rfl, rfl, rfl, rfl, trivial⟩)
        · omega
        · omega
    · intro h14
      have k14 := of_decide_eq_false h14; try simp only [List.length_map] at k14
      have hge : m.From.length ≤ i := by omega
      rw [List.take_of_length_le hge]
      refine awp_exit ?_
      refine awp_seq ?_
      refine awp_seq ?_
      refine awp_region ?_
      refine sq_plain rfl rfl rfl (w_move rfl (ev_tmp rfl)) ?_
      refine sq_plain rfl rfl rfl (w_alen 0 rfl Try.underlying31 (ev_tmp rfl) rfl) ?_
      refine sq_plain rfl rfl rfl (w_fldBn 4 rfl Try.underlying33 rfl Try.sizeOf31 (ev_tmp rfl) rfl) ?_
      refine sq_plain rfl rfl rfl (w_loadB1 1 rfl (ev_tmp rfl) rfl Try.isAgg31 rfl) ?_
      refine sq_plain rfl rfl rfl (w_llen rfl Try.underlying31 (ev_tmp rfl)) ?_
      refine sq_plain rfl rfl rfl (w_neq rfl (ev_tmp rfl) (ev_tmp rfl)) ?_
      refine sq_nil ?_
      refine awp_cond (ev_tmp rfl) ?_ ?_
      · intro h36
        have k36 := ne_of_bne h36; try simp only [List.length_map] at k36
        have hab : ¬ (m.From.filter (cpWant m) = m.To) := by intro hc; rw [hc] at k36; exact k36 rfl
        refine awp_seq ?_
        refine awp_region ?_
        refine sq_plain rfl rfl rfl (w_assign rfl ev_cb) ?_
        refine sq_nil ?_
        refine awp_ret ?_
        exact retR rfl (rv_tmp' rfl (by first | rfl | exact congrArg AV.bool (by simp [hab])))
      · intro h36
        have k36 := eq_of_bne_false h36; try simp only [List.length_map] at k36
        have heq : (m.From.filter (cpWant m)).length = m.To.length := by omega
        refine awp_skip ?_
        refine awp_seq ?_
        refine awp_seq ?_
        refine awp_region ?_
        refine sq_plain rfl rfl rfl (w_move rfl (ev_tmp rfl)) ?_
        refine sq_plain rfl rfl rfl (w_alen 0 rfl Try.underlying31 (ev_tmp rfl) rfl) ?_
        refine sq_plain rfl rfl rfl (w_move rfl ev_ci) ?_
        refine sq_nil ?_
        refine awp_block ?_
        refine awp_loop_i [(1, _), (3, _), (38, _)] _ (fun (i : Nat) => i ≤ m.To.length ∧ (m.From.filter (cpWant m)).take i = m.To.take i) (fun (i : Nat) => [.arr v 37 3 ((m.From.filter (cpWant m)).map TWrite.cs)]) (fun (i : Nat) => [(39, AV.int i)]) (fun (i : Nat) => m.To.length - i) (0) ?_ (le_eq (by rfl) ⟨rfl, rfl, rfl, rfl, trivial⟩) ?_
        · exact ⟨Nat.zero_le _, rfl⟩
        intro i hinv
        refine awp_seq ?_
        refine awp_region ?_
        refine sq_plain rfl rfl rfl (w_lss rfl (ev_tmp rfl) (ev_tmp rfl)) ?_
        refine sq_nil ?_
        refine awp_seq ?_
        refine awp_cond (ev_tmp rfl) ?_ ?_
        · intro h40
          have k40 := of_decide_eq_true h40; try simp only [List.length_map] at k40
          have hlt : i < m.To.length := by omega
          obtain ⟨x, hx⟩ := get_some (show i < (m.From.filter (cpWant m)).length by omega)
          obtain ⟨y, hy⟩ := get_some hlt
          refine awp_skip ?_
          refine awp_seq ?_
          refine awp_block ?_
          refine awp_seq ?_
          refine awp_region ?_
          refine sq_plain rfl rfl rfl (w_move rfl (ev_tmp rfl)) ?_
          refine sq_plain rfl rfl rfl (w_assign rfl (ev_tmp rfl)) ?_
          refine sq_nil ?_
          refine awp_seq ?_
          refine awp_region_any (by kernel_rfl) (by kernel_rfl) rfl ?_
          refine ch_plain rfl rfl (w_move rfl (ev_tmp rfl)) ?_
          refine ch_plain rfl rfl (w_move rfl (ev_tmp rfl)) ?_
          refine ch_plain rfl rfl (w_aidx 0 rfl Try.underlying31 Try.sizeOf37 (ev_tmp rfl) rfl (ev_tmp rfl) (by omega) (by simp only [List.length_map]; omega)) ?_
          refine ch_plain rfl rfl (w_loadX 0 rfl (ev_tmp rfl) rfl Try.isAgg37 Try.sizeOf37 (by simp only [Int.toNat_natCast, List.getElem?_map, hx, Option.map_some]; rfl) (by decide)) ?_
          refine ch_plain rfl rfl (w_fldBn 4 rfl Try.underlying33 rfl Try.sizeOf31 (ev_tmp rfl) rfl) ?_
          refine ch_plain rfl rfl (w_loadB1 1 rfl (ev_tmp rfl) rfl Try.isAgg31 rfl) ?_
          refine ch_plain rfl rfl (w_move rfl (ev_tmp rfl)) ?_
          refine ch_plain rfl rfl (w_idxm rfl Try.underlying31 Try.sizeOf37 (ev_tmp rfl) (ev_tmp rfl) hy (by first | omega | ((try simp only [List.length_map, List.length_take, List.length_cons, List.length_nil, chunks_len, szR] at *); omega) | (have hc2 := hc; simp only [Bool.and_eq_true, Bool.or_eq_true, Bool.or_eq_false_iff, Bool.and_eq_false_iff, Bool.not_eq_true', Bool.not_eq_false', decide_eq_true_eq, decide_eq_false_iff_not, beq_iff_eq, bne_iff_ne, List.length_map, List.length_take] at hc2; omega))) ?_
          refine ch_plain rfl rfl (w_loadE rfl (ev_tmp rfl) Try.isAgg37 Try.sizeOf37) ?_
          refine ch_plain rfl rfl (w_aneq rfl Try.underlying37 (by kernel_rfl) (by kernel_rfl) (ev_tmp rfl) (ev_tmp rfl) (eqf_cons (by kernel_rfl) Try.isAgg9 rfl rfl (eqf_str Try.underlying9) (eqf_cons (by kernel_rfl) Try.isAgg9 rfl rfl (eqf_str Try.underlying9) (eqf_cons (by kernel_rfl) Try.isAgg4 rfl rfl (eqf_bool Try.underlying4) eqf_nil)))) ?_
          refine ch_nil ?_
          refine awp_cond (ev_tmp rfl) ?_ ?_
          · intro h51
            have hab : ¬ (m.From.filter (cpWant m) = m.To) := by intro hc; rw [hc, hy] at hx; injection hx with hx; subst hx; simp at h51
            refine awp_seq ?_
            refine awp_region ?_
            refine sq_plain rfl rfl rfl (w_assign rfl ev_cb) ?_
            refine sq_nil ?_
            refine awp_ret ?_
            exact retR rfl (rv_tmp' rfl (by first | rfl | exact congrArg AV.bool (by simp [hab])))
          · intro h51
            refine awp_skip ?_
            refine awp_region ?_
            refine sq_plain rfl rfl rfl (w_addi rfl (ev_tmp rfl) ev_ci (by first | omega | ((try simp only [List.length_map, List.length_take, List.length_cons, List.length_nil, chunks_len, szR] at *); omega) | (have hc2 := hc; simp only [Bool.and_eq_true, Bool.or_eq_true, Bool.or_eq_false_iff, Bool.and_eq_false_iff, Bool.not_eq_true', Bool.not_eq_false', decide_eq_true_eq, decide_eq_false_iff_not, beq_iff_eq, bne_iff_ne, List.length_map, List.length_take] at hc2; omega))) ?_
            refine sq_plain rfl rfl rfl (w_move rfl (ev_tmp rfl)) ?_
            refine sq_nil ?_
            refine round_end i (i + 1) ?_ ?_ (le_eq (by rfl) ⟨rfl, rfl, rfl, rfl, trivial⟩)
            · exact ⟨by omega, take_eq_succ hinv.2 hx (by rw [hy]; congr 1; cases x; cases y; simp_all)⟩
            · omega
        · intro h40
          have k40 := of_decide_eq_false h40; try simp only [List.length_map] at k40
          have hge : m.To.length ≤ i := by omega
          have hab : m.From.filter (cpWant m) = m.To := take_eq_of heq hinv.2 (by omega)
          refine awp_exit ?_
          refine awp_seq ?_
          refine awp_region ?_
          refine sq_plain rfl rfl rfl (w_assign rfl ev_cb) ?_
          refine sq_nil ?_
          refine awp_ret ?_
          exact retR rfl (rv_tmp' rfl (by first | rfl | exact congrArg AV.bool (by simp [hab])))
theorem isCopiedS_spec (m : TMove) (hs : m.size ≤ 1048576) : FSpec Try.prog 40 [AV.agg m.cs] (AV.tup [AV.bool (isCopiedS m).1, AV.bool (isCopiedS m).2]) := by
  refine spec_of_awp Try.func40 rfl Try.ntmps40 rfl ?_
  refine awp_seq ?_
  refine awp_region ?_
  refine sq_box rfl rfl rfl rfl (ev_tmp rfl) ?_
  intro b1
  refine sq_plain rfl rfl rfl (w_assign rfl ev_cb) ?_
  refine sq_plain rfl rfl rfl (w_assign rfl ev_cb) ?_
  refine sq_nil ?_
  refine awp_seq ?_
  refine awp_seq ?_
  refine awp_region ?_
  refine sq_plain rfl rfl rfl (w_loadA 0 rfl (ev_tmp rfl) rfl Try.isAgg33 Try.sizeOf33 rfl) ?_
  refine sq_plain rfl rfl rfl (w_call rfl Try.call44 rfl (goodMoveS_spec _ (by assumption)) (evl_cons (ev_tmp rfl) evl_nil)) ?_
  refine sq_plain rfl rfl rfl (w_not rfl (ev_tmp rfl)) ?_
  refine sq_nil ?_
  refine awp_cond (ev_tmp rfl) ?_ ?_
  · intro h6
    refine awp_seq ?_
    refine awp_region ?_
    refine sq_plain rfl rfl rfl (w_assign rfl ev_cb) ?_
    refine sq_plain rfl rfl rfl (w_assign rfl ev_cb) ?_
    refine sq_nil ?_
    refine awp_ret ?_
    exact retN rfl (by decide) (rv_cons (rv_tmp' rfl (by first | (refine congrArg AV.bool ?_; unfold isCopiedS; simp_all; done))) (rv_cons (rv_tmp' rfl (by first | (refine congrArg AV.bool ?_; unfold isCopiedS; simp_all; done))) rv_nil))
  · intro h6
    refine awp_skip ?_
    refine awp_seq ?_
    refine awp_region ?_
    refine sq_plain rfl rfl rfl (w_loadA 0 rfl (ev_tmp rfl) rfl Try.isAgg33 Try.sizeOf33 rfl) ?_
    refine sq_plain rfl rfl rfl (w_call rfl Try.call84 rfl (l22Copied_spec _ (by assumption)) (evl_cons (ev_tmp rfl) evl_nil)) ?_
    refine sq_plain rfl rfl rfl (w_assign rfl (ev_tmp rfl)) ?_
    refine sq_plain rfl rfl rfl (w_assign rfl ev_cb) ?_
    refine sq_nil ?_
    refine awp_ret ?_
    exact retN rfl (by decide) (rv_cons (rv_tmp' rfl (by first | (refine congrArg AV.bool ?_; unfold isCopiedS; simp_all; done))) (rv_cons (rv_tmp' rfl (by first | (refine congrArg AV.bool ?_; unfold isCopiedS; simp_all; done))) rv_nil))
theorem copyMove_own (m : TMove) (hs : m.size ≤ 4194304) : GSpec Try.prog 53 [AV.agg m.cs] [] (fun _ : Value × Value => True) (fun x => TMove.ow m x) (fun x => AV.agg (TMove.ocs m x)) := by
  unfold TMove.size at hs
  have hf : m.From.length ≤ 4194304 := Nat.le_trans sizeL_len (show sizeL TWrite.size m.From ≤ 4194304 by omega)
  have ht : m.To.length ≤ 4194304 := Nat.le_trans sizeL_len (show sizeL TWrite.size m.To ≤ 4194304 by omega)
  refine gspec_of_awp Try.func53 rfl Try.ntmps53 rfl ?_
  refine awp_seq ?_
  refine awp_region ?_
  refine sq_box rfl rfl rfl rfl (ev_tmp rfl) ?_
  intro b1
  refine sq_alloc rfl rfl rfl rfl Try.zeroValue33 rfl ?_
  intro b2
  refine sq_nil ?_
  refine awp_seq ?_
  refine awp_region_mix _ [(0, false), (1, false), (3, false), (4, false), (2, true), (6, false), (5, true)] (by kernel_rfl) (by kernel_rfl) rfl invx_self ?_
  refine bc_plain rfl rfl rfl (fun ext => w_fldBn 3 rfl Try.underlying33 rfl Try.sizeOf31 (ev_tmp rfl) rfl) ?_
  refine bc_plain rfl rfl rfl (fun ext => w_loadB1 1 rfl (ev_tmp rfl) rfl Try.isAgg31 rfl) ?_
  refine bc_plain rfl rfl rfl (fun ext => w_fldBn 4 rfl Try.underlying33 rfl Try.sizeOf31 (ev_tmp rfl) rfl) ?_
  refine bc_plain rfl rfl rfl (fun ext => w_loadB1 1 rfl (ev_tmp rfl) rfl Try.isAgg31 rfl) ?_
  refine bc_eff rfl rfl rfl (opE_call [] rfl Try.call81 rfl (cloneWrite_spec _ (by first | assumption | omega)) (evl_cons (ev_tmp rfl) evl_nil) rfl) (fun a _ => (by first | exact invx_mk rfl | exact invx_mk (List.append_assoc _ _ _) | exact invx_all)) ?_
  intro x5 ok5
  refine bc_plain rfl rfl rfl (fun ext => w_fldBn 3 rfl Try.underlying33 rfl Try.sizeOf31 (ev_tmp rfl) rfl) ?_
  refine bc_eff rfl rfl rfl (opE_call [] rfl Try.call81 rfl (cloneWrite_spec _ (by first | assumption | omega)) (evl_cons (ev_tmp rfl) evl_nil) rfl) (fun a _ => (by first | exact invx_mk rfl | exact invx_mk (List.append_assoc _ _ _) | exact invx_all)) ?_
  intro x8 ok8
  refine bc_nil ?_
  refine sq_fact 2 rfl fun one_x5 => ?_
  refine sq_storeB1 1 rfl rfl rfl (ev_tmp rfl) (ev_tmp rfl) (as_is one_x5) rfl Try.sizeOf31 rfl ?_
  refine sq_plain rfl rfl rfl (w_fldBn 4 rfl Try.underlying33 rfl Try.sizeOf31 (ev_tmp rfl) rfl) ?_
  refine sq_fact 3 rfl fun one_x8 => ?_
  refine sq_storeB1 1 rfl rfl rfl (ev_tmp rfl) (ev_tmp rfl) (as_is one_x8) rfl Try.sizeOf31 rfl ?_
  refine sq_nil ?_
  refine awp_seq ?_
  refine awp_region ?_
  refine sq_plain rfl rfl rfl (w_loadA 1 rfl (ev_tmp rfl) rfl Try.isAgg33 Try.sizeOf33 rfl) ?_
  refine sq_storeB0 0 rfl rfl rfl (ev_tmp rfl) (ev_tmp rfl) (as_agg _) rfl Try.sizeOf33 rfl ?_
  refine sq_nil ?_
  refine awp_ret ?_
  exact retG [2, 2] (x5, x8) (trivial) rfl (by rfl) (resR rfl (rv_cell (ys := _) 0 rfl rfl Try.isAgg33 Try.sizeOf33 rfl))
theorem l22Own_own (m : TMove) (hs : m.size ≤ 4194304) : GSpec Try.prog 50 [AV.agg m.cs] [] (fun _ : Value × Value => True) (fun x => TMove.ow m x) (fun x => AV.agg (TMove.ocs m x)) := by
  unfold TMove.size at hs
  have hf : m.From.length ≤ 4194304 := Nat.le_trans sizeL_len (show sizeL TWrite.size m.From ≤ 4194304 by omega)
  have ht : m.To.length ≤ 4194304 := Nat.le_trans sizeL_len (show sizeL TWrite.size m.To ≤ 4194304 by omega)
  refine gspec_of_awp Try.func50 rfl Try.ntmps50 rfl ?_
  refine awp_seq ?_
  refine awp_region ?_
  refine sq_box rfl rfl rfl rfl (ev_tmp rfl) ?_
  intro b1
  refine sq_alloc rfl rfl rfl rfl Try.zeroValue33 rfl ?_
  intro b2
  refine sq_nil ?_
  refine awp_seq ?_
  refine awp_region ?_
  refine sq_emptyarr rfl rfl rfl rfl Try.underlying31 Try.sizeOf37 ?_
  intro v3
  refine sq_plain rfl rfl rfl (w_fldBn 3 rfl Try.underlying33 rfl Try.sizeOf31 (ev_tmp rfl) rfl) ?_
  refine sq_plain rfl rfl rfl (w_loadB1 2 rfl (ev_tmp rfl) rfl Try.isAgg31 rfl) ?_
  refine sq_append (by' := 40) 0 rfl rfl rfl rfl Try.underlying31 Try.type37 rfl rfl rfl rfl rfl rfl (ev_tmp rfl) (ev_tmp rfl) rfl (by first | omega | ((try simp only [List.length_map, List.length_take, List.length_cons, List.length_nil, chunks_len, szR] at *); omega) | (have hc2 := hc; simp only [Bool.and_eq_true, Bool.or_eq_true, Bool.or_eq_false_iff, Bool.and_eq_false_iff, Bool.not_eq_true', Bool.not_eq_false', decide_eq_true_eq, decide_eq_false_iff_not, beq_iff_eq, bne_iff_ne, List.length_map, List.length_take] at hc2; omega)) ?_
  intro v6_1
  refine sq_plain rfl rfl rfl (w_fldBn 3 rfl Try.underlying33 rfl Try.sizeOf31 (ev_tmp rfl) rfl) ?_
  refine sq_fact 0 rfl fun one_v6_1 => ?_
  refine sq_storeB1 2 rfl rfl rfl (ev_tmp rfl) (ev_tmp rfl) (as_is one_v6_1) rfl Try.sizeOf31 rfl ?_
  refine sq_nil ?_
  refine awp_seq ?_
  refine awp_region ?_
  refine sq_emptyarr rfl rfl rfl rfl Try.underlying31 Try.sizeOf37 ?_
  intro v8
  refine sq_plain rfl rfl rfl (w_fldBn 4 rfl Try.underlying33 rfl Try.sizeOf31 (ev_tmp rfl) rfl) ?_
  refine sq_plain rfl rfl rfl (w_loadB1 3 rfl (ev_tmp rfl) rfl Try.isAgg31 rfl) ?_
  refine sq_append (by' := 40) 0 rfl rfl rfl rfl Try.underlying31 Try.type37 rfl rfl rfl rfl rfl rfl (ev_tmp rfl) (ev_tmp rfl) rfl (by first | omega | ((try simp only [List.length_map, List.length_take, List.length_cons, List.length_nil, chunks_len, szR] at *); omega) | (have hc2 := hc; simp only [Bool.and_eq_true, Bool.or_eq_true, Bool.or_eq_false_iff, Bool.and_eq_false_iff, Bool.not_eq_true', Bool.not_eq_false', decide_eq_true_eq, decide_eq_false_iff_not, beq_iff_eq, bne_iff_ne, List.length_map, List.length_take] at hc2; omega)) ?_
  intro v11_2
  refine sq_plain rfl rfl rfl (w_fldBn 4 rfl Try.underlying33 rfl Try.sizeOf31 (ev_tmp rfl) rfl) ?_
  refine sq_fact 0 rfl fun one_v11_2 => ?_
  refine sq_storeB1 3 rfl rfl rfl (ev_tmp rfl) (ev_tmp rfl) (as_is one_v11_2) rfl Try.sizeOf31 rfl ?_
  refine sq_nil ?_
  refine awp_seq ?_
  refine awp_region ?_
  refine sq_plain rfl rfl rfl (w_loadA 3 rfl (ev_tmp rfl) rfl Try.isAgg33 Try.sizeOf33 rfl) ?_
  refine sq_storeB0 2 rfl rfl rfl (ev_tmp rfl) (ev_tmp rfl) (as_agg _) rfl Try.sizeOf33 rfl ?_
  refine sq_nil ?_
  refine awp_ret ?_
  exact retG [1, 0] (v6_1, v11_2) (trivial) rfl (by rfl) (resR rfl (rv_cell (ys := _) 2 rfl rfl Try.isAgg33 Try.sizeOf33 rfl))
theorem newMove_own (a b : Str) (l : List TWrite) (ha : a.length ≤ 1048576) (hb : b.length ≤ 1048576) (hl : sizeL TWrite.size l ≤ 1048576) : GSpec Try.prog 27 [AV.str a, AV.str b, AV.list 3 (l.map TWrite.cs)] [] (fun _ : Value × Value => True) (fun x => TMove.ow (newMove a b l).1 x) (fun x => AV.tup [AV.agg (TMove.ocs (newMove a b l).1 x), AV.bool (newMove a b l).2]) := by
  have hs : (mkMove a b l).size ≤ 4194304 := by unfold mkMove TMove.size sizeL; simp; unfold sizeL at hl; omega
  refine gspec_of_awp Try.func27 rfl Try.ntmps27 rfl ?_
  refine awp_seq ?_
  refine awp_region ?_
  refine sq_alloc rfl rfl rfl rfl Try.zeroValue33 rfl ?_
  intro b6
  refine sq_plain rfl rfl rfl (w_assign rfl ev_cb) ?_
  refine sq_nil ?_
  refine awp_seq ?_
  refine awp_region ?_
  refine sq_plain rfl rfl rfl (w_move rfl (ev_tmp rfl)) ?_
  refine sq_plain rfl rfl rfl (w_move rfl (ev_tmp rfl)) ?_
  refine sq_plain rfl rfl rfl (w_move rfl (ev_tmp rfl)) ?_
  refine sq_plain rfl rfl rfl (w_build (places := #[(0, 1), (1, 1), (2, 1), (3, 1), (4, 1), (5, 1), (6, 1)]) rfl Try.underlying33 Try.zeroValue33 (fun w => by kernel_rfl) rfl (bp_cons (ev_tmp rfl) (as_str _) (bp_cons (ev_tmp rfl) (as_str _) (bp_cons ev_ci (as_ik _ _) (bp_cons (ev_tmp rfl) (as_list _ _) bp_nil)))) rfl) ?_
  refine sq_callGB [] rfl rfl rfl rfl Try.call53 rfl (copyMove_own (mkMove a b l) hs) rfl (evlb_cons (evb_lt (ev_tmp rfl) (lt_agg (lc_cons lt_refl (lc_cons lt_refl (lc_cons lt_refl (lc_cons lt_refl (lc_cons lt_nils (lc_cons lt_refl (lc_cons lt_refl lc_nil))))))))) evlb_nil) (by first | exact flatO_nil | (intro _; exact flatO_nil) | (intro _; first | exact flat_is _ | exact flat_ik _ _ | exact flat_bool _ | exact flat_str _ | exact flat_nils) | (intro _; refine flat_tup ?_; (repeat (first | exact flatl_nil | (refine flatl_cons (by first | (first | exact flat_is _ | exact flat_ik _ _ | exact flat_bool _ | exact flat_str _ | exact flat_nils) | (refine flat_agg ?_; (repeat (first | exact flatl_nil | (refine flatl_cons (by first | exact flat_is _ | exact flat_ik _ _ | exact flat_bool _ | exact flat_str _ | exact flat_nils) ?_))))) ?_))); done) | (intro _; refine flat_agg ?_; (repeat (first | exact flatl_nil | (refine flatl_cons (by first | exact flat_is _ | exact flat_ik _ _ | exact flat_bool _ | exact flat_str _ | exact flat_nils) ?_))); done) | ((repeat (first | exact flatO_nil | (refine flatO_cons (flatO_box ?_) ?_; (repeat (first | exact flatl_nil | (refine flatl_cons (by first | exact flat_is _ | exact flat_ik _ _ | exact flat_bool _ | exact flat_str _ | exact flat_nils) ?_)))) | (refine flatO_cons (flatO_arr ?_) ?_; (repeat (first | exact flate_nil | (refine flate_map (fun _ => ?_); (first | exact TWrite.flat _ | exact TFeedItem.flat _ | exact TIdx.flat _ | exact TVer.flat _ | (repeat (first | exact flatl_nil | (refine flatl_cons (by first | exact flat_is _ | exact flat_ik _ _ | exact flat_bool _ | exact flat_str _ | exact flat_nils) ?_))))) | (refine flate_rep ?_; (first | exact TWrite.flat _ | exact TFeedItem.flat _ | exact TIdx.flat _ | exact TVer.flat _ | (repeat (first | exact flatl_nil | (refine flatl_cons (by first | exact flat_is _ | exact flat_ik _ _ | exact flat_bool _ | exact flat_str _ | exact flat_nils) ?_))))) | (refine flate_cons ?_ ?_; (first | exact TWrite.flat _ | exact TFeedItem.flat _ | exact TIdx.flat _ | exact TVer.flat _ | (repeat (first | exact flatl_nil | (refine flatl_cons (by first | exact flat_is _ | exact flat_ik _ _ | exact flat_bool _ | exact flat_str _ | exact flat_nils) ?_))))) | refine flate_app ?_ ?_))))); done) | (intro _; (repeat (first | exact flatO_nil | (refine flatO_cons (flatO_box ?_) ?_; (repeat (first | exact flatl_nil | (refine flatl_cons (by first | exact flat_is _ | exact flat_ik _ _ | exact flat_bool _ | exact flat_str _ | exact flat_nils) ?_)))) | (refine flatO_cons (flatO_arr ?_) ?_; (repeat (first | exact flate_nil | (refine flate_map (fun _ => ?_); (first | exact TWrite.flat _ | exact TFeedItem.flat _ | exact TIdx.flat _ | exact TVer.flat _ | (repeat (first | exact flatl_nil | (refine flatl_cons (by first | exact flat_is _ | exact flat_ik _ _ | exact flat_bool _ | exact flat_str _ | exact flat_nils) ?_))))) | (refine flate_rep ?_; (first | exact TWrite.flat _ | exact TFeedItem.flat _ | exact TIdx.flat _ | exact TVer.flat _ | (repeat (first | exact flatl_nil | (refine flatl_cons (by first | exact flat_is _ | exact flat_ik _ _ | exact flat_bool _ | exact flat_str _ | exact flat_nils) ?_))))) | (refine flate_cons ?_ ?_; (first | exact TWrite.flat _ | exact TFeedItem.flat _ | exact TIdx.flat _ | exact TVer.flat _ | (repeat (first | exact flatl_nil | (refine flatl_cons (by first | exact flat_is _ | exact flat_ik _ _ | exact flat_bool _ | exact flat_str _ | exact flat_nils) ?_))))) | refine flate_app ?_ ?_))))); done)) (by first | exact flatO_nil | (intro _; exact flatO_nil) | (intro _; first | exact flat_is _ | exact flat_ik _ _ | exact flat_bool _ | exact flat_str _ | exact flat_nils) | (intro _; refine flat_tup ?_; (repeat (first | exact flatl_nil | (refine flatl_cons (by first | (first | exact flat_is _ | exact flat_ik _ _ | exact flat_bool _ | exact flat_str _ | exact flat_nils) | (refine flat_agg ?_; (repeat (first | exact flatl_nil | (refine flatl_cons (by first | exact flat_is _ | exact flat_ik _ _ | exact flat_bool _ | exact flat_str _ | exact flat_nils) ?_))))) ?_))); done) | (intro _; refine flat_agg ?_; (repeat (first | exact flatl_nil | (refine flatl_cons (by first | exact flat_is _ | exact flat_ik _ _ | exact flat_bool _ | exact flat_str _ | exact flat_nils) ?_))); done) | ((repeat (first | exact flatO_nil | (refine flatO_cons (flatO_box ?_) ?_; (repeat (first | exact flatl_nil | (refine flatl_cons (by first | exact flat_is _ | exact flat_ik _ _ | exact flat_bool _ | exact flat_str _ | exact flat_nils) ?_)))) | (refine flatO_cons (flatO_arr ?_) ?_; (repeat (first | exact flate_nil | (refine flate_map (fun _ => ?_); (first | exact TWrite.flat _ | exact TFeedItem.flat _ | exact TIdx.flat _ | exact TVer.flat _ | (repeat (first | exact flatl_nil | (refine flatl_cons (by first | exact flat_is _ | exact flat_ik _ _ | exact flat_bool _ | exact flat_str _ | exact flat_nils) ?_))))) | (refine flate_rep ?_; (first | exact TWrite.flat _ | exact TFeedItem.flat _ | exact TIdx.flat _ | exact TVer.flat _ | (repeat (first | exact flatl_nil | (refine flatl_cons (by first | exact flat_is _ | exact flat_ik _ _ | exact flat_bool _ | exact flat_str _ | exact flat_nils) ?_))))) | (refine flate_cons ?_ ?_; (first | exact TWrite.flat _ | exact TFeedItem.flat _ | exact TIdx.flat _ | exact TVer.flat _ | (repeat (first | exact flatl_nil | (refine flatl_cons (by first | exact flat_is _ | exact flat_ik _ _ | exact flat_bool _ | exact flat_str _ | exact flat_nils) ?_))))) | refine flate_app ?_ ?_))))); done) | (intro _; (repeat (first | exact flatO_nil | (refine flatO_cons (flatO_box ?_) ?_; (repeat (first | exact flatl_nil | (refine flatl_cons (by first | exact flat_is _ | exact flat_ik _ _ | exact flat_bool _ | exact flat_str _ | exact flat_nils) ?_)))) | (refine flatO_cons (flatO_arr ?_) ?_; (repeat (first | exact flate_nil | (refine flate_map (fun _ => ?_); (first | exact TWrite.flat _ | exact TFeedItem.flat _ | exact TIdx.flat _ | exact TVer.flat _ | (repeat (first | exact flatl_nil | (refine flatl_cons (by first | exact flat_is _ | exact flat_ik _ _ | exact flat_bool _ | exact flat_str _ | exact flat_nils) ?_))))) | (refine flate_rep ?_; (first | exact TWrite.flat _ | exact TFeedItem.flat _ | exact TIdx.flat _ | exact TVer.flat _ | (repeat (first | exact flatl_nil | (refine flatl_cons (by first | exact flat_is _ | exact flat_ik _ _ | exact flat_bool _ | exact flat_str _ | exact flat_nils) ?_))))) | (refine flate_cons ?_ ?_; (first | exact TWrite.flat _ | exact TFeedItem.flat _ | exact TIdx.flat _ | exact TVer.flat _ | (repeat (first | exact flatl_nil | (refine flatl_cons (by first | exact flat_is _ | exact flat_ik _ _ | exact flat_bool _ | exact flat_str _ | exact flat_nils) ?_))))) | refine flate_app ?_ ?_))))); done)) (by first | exact flatO_nil | (intro _; exact flatO_nil) | (intro _; first | exact flat_is _ | exact flat_ik _ _ | exact flat_bool _ | exact flat_str _ | exact flat_nils) | (intro _; refine flat_tup ?_; (repeat (first | exact flatl_nil | (refine flatl_cons (by first | (first | exact flat_is _ | exact flat_ik _ _ | exact flat_bool _ | exact flat_str _ | exact flat_nils) | (refine flat_agg ?_; (repeat (first | exact flatl_nil | (refine flatl_cons (by first | exact flat_is _ | exact flat_ik _ _ | exact flat_bool _ | exact flat_str _ | exact flat_nils) ?_))))) ?_))); done) | (intro _; refine flat_agg ?_; (repeat (first | exact flatl_nil | (refine flatl_cons (by first | exact flat_is _ | exact flat_ik _ _ | exact flat_bool _ | exact flat_str _ | exact flat_nils) ?_))); done) | ((repeat (first | exact flatO_nil | (refine flatO_cons (flatO_box ?_) ?_; (repeat (first | exact flatl_nil | (refine flatl_cons (by first | exact flat_is _ | exact flat_ik _ _ | exact flat_bool _ | exact flat_str _ | exact flat_nils) ?_)))) | (refine flatO_cons (flatO_arr ?_) ?_; (repeat (first | exact flate_nil | (refine flate_map (fun _ => ?_); (first | exact TWrite.flat _ | exact TFeedItem.flat _ | exact TIdx.flat _ | exact TVer.flat _ | (repeat (first | exact flatl_nil | (refine flatl_cons (by first | exact flat_is _ | exact flat_ik _ _ | exact flat_bool _ | exact flat_str _ | exact flat_nils) ?_))))) | (refine flate_rep ?_; (first | exact TWrite.flat _ | exact TFeedItem.flat _ | exact TIdx.flat _ | exact TVer.flat _ | (repeat (first | exact flatl_nil | (refine flatl_cons (by first | exact flat_is _ | exact flat_ik _ _ | exact flat_bool _ | exact flat_str _ | exact flat_nils) ?_))))) | (refine flate_cons ?_ ?_; (first | exact TWrite.flat _ | exact TFeedItem.flat _ | exact TIdx.flat _ | exact TVer.flat _ | (repeat (first | exact flatl_nil | (refine flatl_cons (by first | exact flat_is _ | exact flat_ik _ _ | exact flat_bool _ | exact flat_str _ | exact flat_nils) ?_))))) | refine flate_app ?_ ?_))))); done) | (intro _; (repeat (first | exact flatO_nil | (refine flatO_cons (flatO_box ?_) ?_; (repeat (first | exact flatl_nil | (refine flatl_cons (by first | exact flat_is _ | exact flat_ik _ _ | exact flat_bool _ | exact flat_str _ | exact flat_nils) ?_)))) | (refine flatO_cons (flatO_arr ?_) ?_; (repeat (first | exact flate_nil | (refine flate_map (fun _ => ?_); (first | exact TWrite.flat _ | exact TFeedItem.flat _ | exact TIdx.flat _ | exact TVer.flat _ | (repeat (first | exact flatl_nil | (refine flatl_cons (by first | exact flat_is _ | exact flat_ik _ _ | exact flat_bool _ | exact flat_str _ | exact flat_nils) ?_))))) | (refine flate_rep ?_; (first | exact TWrite.flat _ | exact TFeedItem.flat _ | exact TIdx.flat _ | exact TVer.flat _ | (repeat (first | exact flatl_nil | (refine flatl_cons (by first | exact flat_is _ | exact flat_ik _ _ | exact flat_bool _ | exact flat_str _ | exact flat_nils) ?_))))) | (refine flate_cons ?_ ?_; (first | exact TWrite.flat _ | exact TFeedItem.flat _ | exact TIdx.flat _ | exact TVer.flat _ | (repeat (first | exact flatl_nil | (refine flatl_cons (by first | exact flat_is _ | exact flat_ik _ _ | exact flat_bool _ | exact flat_str _ | exact flat_nils) ?_))))) | refine flate_app ?_ ?_))))); done)) ?_
  intro x13 ok13
  refine sq_alloc rfl rfl rfl rfl Try.zeroValue33 rfl ?_
  intro b8
  refine sq_storeB0 0 rfl rfl rfl (ev_tmp rfl) (ev_tmp rfl) (as_agg _) rfl Try.sizeOf33 rfl ?_
  refine sq_nil ?_
  refine awp_seq ?_
  refine awp_seq ?_
  refine awp_region ?_
  refine sq_plain rfl rfl rfl (w_loadA 0 rfl (ev_tmp rfl) rfl Try.isAgg33 Try.sizeOf33 rfl) ?_
  refine sq_plain rfl rfl rfl (w_callB rfl Try.call43 rfl (goodMove_spec (mkMove a b l) hs) (flat_bool _) (evlb_cons (evb_lt (ev_tmp rfl) (lt_agg (lc_cons lt_refl (lc_cons lt_refl (lc_cons lt_refl (lc_cons (lt_arr (List.mem_of_getElem? (i := 1) rfl) le_refl_e) (lc_cons (lt_arr (List.mem_of_getElem? (i := 2) rfl) le_refl_e) (lc_cons lt_refl (lc_cons lt_refl lc_nil))))))))) evlb_nil)) ?_
  refine sq_plain rfl rfl rfl (w_not rfl (ev_tmp rfl)) ?_
  refine sq_nil ?_
  refine awp_cond (ev_tmp rfl) ?_ ?_
  · intro h16
    have he : newMove a b l = (noMove, false) := by unfold newMove; rw [if_pos h16]
    rw [he]
    refine awp_seq ?_
    refine awp_region ?_
    refine sq_plain rfl rfl rfl (w_build (places := #[(0, 1), (1, 1), (2, 1), (3, 1), (4, 1), (5, 1), (6, 1)]) rfl Try.underlying33 Try.zeroValue33 (fun w => by kernel_rfl) rfl bp_nil rfl) ?_
    refine sq_storeB0 3 rfl rfl rfl (ev_tmp rfl) (ev_tmp rfl) (as_agg _) rfl Try.sizeOf33 rfl ?_
    refine sq_plain rfl rfl rfl (w_assign rfl ev_cb) ?_
    refine sq_nil ?_
    refine awp_ret ?_
    refine retG_nil 37 3 ?_
    refine retG_nil 37 3 ?_
    exact retG [1, 0] ((Value.slice none 0 0), (Value.slice none 0 0)) (trivial) rfl (by rfl) (resN rfl (by decide) (rv_cons (rv_cell (ys := _) 5 rfl rfl Try.isAgg33 Try.sizeOf33 rfl) (rv_cons (rv_tmp' rfl (by rfl)) rv_nil)))
  · intro h16
    have he : newMove a b l = (mkMove a b l, true) := by unfold newMove; rw [if_neg (by rw [h16]; decide)]
    rw [he]
    refine awp_skip ?_
    refine awp_seq ?_
    refine awp_region ?_
    refine sq_plain rfl rfl rfl (w_loadA 0 rfl (ev_tmp rfl) rfl Try.isAgg33 Try.sizeOf33 rfl) ?_
    refine sq_storeB0 3 rfl rfl rfl (ev_tmp rfl) (ev_tmp rfl) (as_agg _) rfl Try.sizeOf33 rfl ?_
    refine sq_plain rfl rfl rfl (w_assign rfl ev_cb) ?_
    refine sq_nil ?_
    refine awp_ret ?_
    exact retG [1, 1] (x13.1, x13.2) (trivial) rfl (by rfl) (resN rfl (by decide) (rv_cons (rv_cell (ys := _) 3 rfl rfl Try.isAgg33 Try.sizeOf33 rfl) (rv_cons (rv_tmp' rfl (by rfl)) rv_nil)))
theorem newMoveS_own (a b : Str) (l : List TWrite) (ha : a.length ≤ 1048576) (hb : b.length ≤ 1048576) (hl : sizeL TWrite.size l ≤ 1048576) : GSpec Try.prog 31 [AV.str a, AV.str b, AV.list 3 (l.map TWrite.cs)] [] (fun _ : Value × Value => True) (fun x => TMove.ow (newMoveS a b l).1 x) (fun x => AV.tup [AV.agg (TMove.ocs (newMoveS a b l).1 x), AV.bool (newMoveS a b l).2]) := by
  have hs : (mkMove a b l).size ≤ 4194304 := by unfold mkMove TMove.size sizeL; simp; unfold sizeL at hl; omega
  refine gspec_of_awp Try.func31 rfl Try.ntmps31 rfl ?_
  refine awp_seq ?_
  refine awp_region ?_
  refine sq_alloc rfl rfl rfl rfl Try.zeroValue33 rfl ?_
  intro b6
  refine sq_plain rfl rfl rfl (w_assign rfl ev_cb) ?_
  refine sq_nil ?_
  refine awp_seq ?_
  refine awp_seq ?_
  refine awp_region ?_
  refine sq_plain rfl rfl rfl (w_move rfl (ev_tmp rfl)) ?_
  refine sq_plain rfl rfl rfl (w_move rfl (ev_tmp rfl)) ?_
  refine sq_plain rfl rfl rfl (w_call rfl Try.call69 rfl (l22Ends_spec _ _ (by omega) (by omega)) (evl_cons (ev_tmp rfl) (evl_cons (ev_tmp rfl) evl_nil))) ?_
  refine sq_plain rfl rfl rfl (w_not rfl (ev_tmp rfl)) ?_
  refine sq_plain rfl rfl rfl (w_move rfl (ev_tmp rfl)) ?_
  refine sq_grd rfl rfl (guard_f rfl rfl rfl) (fun hc => w_move rfl (ev_tmp rfl)) ?_
  refine sq_grd rfl rfl (guard_f rfl rfl rfl) (fun hc => w_move rfl (ev_tmp rfl)) ?_
  refine sq_grd rfl rfl (guard_f rfl rfl rfl) (fun hc => w_move rfl (ev_tmp rfl)) ?_
  refine sq_grd rfl rfl (guard_f rfl rfl rfl) (fun hc => w_call rfl Try.call70 rfl (l22Rows_spec _ _ _ (by first | assumption | omega)) (evl_cons (ev_whn rfl hc) (evl_cons (ev_whn rfl hc) (evl_cons (ev_whn rfl hc) evl_nil)))) ?_
  refine sq_grd rfl rfl (guard_f rfl rfl rfl) (fun hc => w_not rfl (ev_whn rfl hc)) ?_
  refine sq_plain rfl rfl rfl (w_or rfl (ev_tmp rfl) (evif_w rfl)) ?_
  refine sq_nil ?_
  refine awp_cond (ev_tmp rfl) ?_ ?_
  · intro h18
    have he : newMoveS a b l = (noMove, false) := by unfold newMoveS; rw [if_pos h18]
    rw [he]
    refine awp_seq ?_
    refine awp_region ?_
    refine sq_plain rfl rfl rfl (w_build (places := #[(0, 1), (1, 1), (2, 1), (3, 1), (4, 1), (5, 1), (6, 1)]) rfl Try.underlying33 Try.zeroValue33 (fun w => by kernel_rfl) rfl bp_nil rfl) ?_
    refine sq_storeB0 0 rfl rfl rfl (ev_tmp rfl) (ev_tmp rfl) (as_agg _) rfl Try.sizeOf33 rfl ?_
    refine sq_plain rfl rfl rfl (w_assign rfl ev_cb) ?_
    refine sq_nil ?_
    refine awp_ret ?_
    refine retG_nil 37 3 ?_
    refine retG_nil 37 3 ?_
    exact retG [1, 0] ((Value.slice none 0 0), (Value.slice none 0 0)) (trivial) rfl (by rfl) (resN rfl (by decide) (rv_cons (rv_cell (ys := _) 2 rfl rfl Try.isAgg33 Try.sizeOf33 rfl) (rv_cons (rv_tmp' rfl (by rfl)) rv_nil)))
  · intro h18
    have he : newMoveS a b l = (mkMove a b l, true) := by unfold newMoveS; rw [if_neg (by rw [h18]; decide)]
    rw [he]
    refine awp_skip ?_
    refine awp_seq ?_
    refine awp_region ?_
    refine sq_plain rfl rfl rfl (w_move rfl (ev_tmp rfl)) ?_
    refine sq_plain rfl rfl rfl (w_move rfl (ev_tmp rfl)) ?_
    refine sq_plain rfl rfl rfl (w_move rfl (ev_tmp rfl)) ?_
    refine sq_plain rfl rfl rfl (w_build (places := #[(0, 1), (1, 1), (2, 1), (3, 1), (4, 1), (5, 1), (6, 1)]) rfl Try.underlying33 Try.zeroValue33 (fun w => by kernel_rfl) rfl (bp_cons (ev_tmp rfl) (as_str _) (bp_cons (ev_tmp rfl) (as_str _) (bp_cons ev_ci (as_ik _ _) (bp_cons (ev_tmp rfl) (as_list _ _) bp_nil)))) rfl) ?_
    refine sq_callGB [] rfl rfl rfl rfl Try.call50 rfl (l22Own_own (mkMove a b l) hs) rfl (evlb_cons (evb_lt (ev_tmp rfl) (lt_agg (lc_cons lt_refl (lc_cons lt_refl (lc_cons lt_refl (lc_cons lt_refl (lc_cons lt_nils (lc_cons lt_refl (lc_cons lt_refl lc_nil))))))))) evlb_nil) (by first | exact flatO_nil | (intro _; exact flatO_nil) | (intro _; first | exact flat_is _ | exact flat_ik _ _ | exact flat_bool _ | exact flat_str _ | exact flat_nils) | (intro _; refine flat_tup ?_; (repeat (first | exact flatl_nil | (refine flatl_cons (by first | (first | exact flat_is _ | exact flat_ik _ _ | exact flat_bool _ | exact flat_str _ | exact flat_nils) | (refine flat_agg ?_; (repeat (first | exact flatl_nil | (refine flatl_cons (by first | exact flat_is _ | exact flat_ik _ _ | exact flat_bool _ | exact flat_str _ | exact flat_nils) ?_))))) ?_))); done) | (intro _; refine flat_agg ?_; (repeat (first | exact flatl_nil | (refine flatl_cons (by first | exact flat_is _ | exact flat_ik _ _ | exact flat_bool _ | exact flat_str _ | exact flat_nils) ?_))); done) | ((repeat (first | exact flatO_nil | (refine flatO_cons (flatO_box ?_) ?_; (repeat (first | exact flatl_nil | (refine flatl_cons (by first | exact flat_is _ | exact flat_ik _ _ | exact flat_bool _ | exact flat_str _ | exact flat_nils) ?_)))) | (refine flatO_cons (flatO_arr ?_) ?_; (repeat (first | exact flate_nil | (refine flate_map (fun _ => ?_); (first | exact TWrite.flat _ | exact TFeedItem.flat _ | exact TIdx.flat _ | exact TVer.flat _ | (repeat (first | exact flatl_nil | (refine flatl_cons (by first | exact flat_is _ | exact flat_ik _ _ | exact flat_bool _ | exact flat_str _ | exact flat_nils) ?_))))) | (refine flate_rep ?_; (first | exact TWrite.flat _ | exact TFeedItem.flat _ | exact TIdx.flat _ | exact TVer.flat _ | (repeat (first | exact flatl_nil | (refine flatl_cons (by first | exact flat_is _ | exact flat_ik _ _ | exact flat_bool _ | exact flat_str _ | exact flat_nils) ?_))))) | (refine flate_cons ?_ ?_; (first | exact TWrite.flat _ | exact TFeedItem.flat _ | exact TIdx.flat _ | exact TVer.flat _ | (repeat (first | exact flatl_nil | (refine flatl_cons (by first | exact flat_is _ | exact flat_ik _ _ | exact flat_bool _ | exact flat_str _ | exact flat_nils) ?_))))) | refine flate_app ?_ ?_))))); done) | (intro _; (repeat (first | exact flatO_nil | (refine flatO_cons (flatO_box ?_) ?_; (repeat (first | exact flatl_nil | (refine flatl_cons (by first | exact flat_is _ | exact flat_ik _ _ | exact flat_bool _ | exact flat_str _ | exact flat_nils) ?_)))) | (refine flatO_cons (flatO_arr ?_) ?_; (repeat (first | exact flate_nil | (refine flate_map (fun _ => ?_); (first | exact TWrite.flat _ | exact TFeedItem.flat _ | exact TIdx.flat _ | exact TVer.flat _ | (repeat (first | exact flatl_nil | (refine flatl_cons (by first | exact flat_is _ | exact flat_ik _ _ | exact flat_bool _ | exact flat_str _ | exact flat_nils) ?_))))) | (refine flate_rep ?_; (first | exact TWrite.flat _ | exact TFeedItem.flat _ | exact TIdx.flat _ | exact TVer.flat _ | (repeat (first | exact flatl_nil | (refine flatl_cons (by first | exact flat_is _ | exact flat_ik _ _ | exact flat_bool _ | exact flat_str _ | exact flat_nils) ?_))))) | (refine flate_cons ?_ ?_; (first | exact TWrite.flat _ | exact TFeedItem.flat _ | exact TIdx.flat _ | exact TVer.flat _ | (repeat (first | exact flatl_nil | (refine flatl_cons (by first | exact flat_is _ | exact flat_ik _ _ | exact flat_bool _ | exact flat_str _ | exact flat_nils) ?_))))) | refine flate_app ?_ ?_))))); done)) (by first | exact flatO_nil | (intro _; exact flatO_nil) | (intro _; first | exact flat_is _ | exact flat_ik _ _ | exact flat_bool _ | exact flat_str _ | exact flat_nils) | (intro _; refine flat_tup ?_; (repeat (first | exact flatl_nil | (refine flatl_cons (by first | (first | exact flat_is _ | exact flat_ik _ _ | exact flat_bool _ | exact flat_str _ | exact flat_nils) | (refine flat_agg ?_; (repeat (first | exact flatl_nil | (refine flatl_cons (by first | exact flat_is _ | exact flat_ik _ _ | exact flat_bool _ | exact flat_str _ | exact flat_nils) ?_))))) ?_))); done) | (intro _; refine flat_agg ?_; (repeat (first | exact flatl_nil | (refine flatl_cons (by first | exact flat_is _ | exact flat_ik _ _ | exact flat_bool _ | exact flat_str _ | exact flat_nils) ?_))); done) | ((repeat (first | exact flatO_nil | (refine flatO_cons (flatO_box ?_) ?_; (repeat (first | exact flatl_nil | (refine flatl_cons (by first | exact flat_is _ | exact flat_ik _ _ | exact flat_bool _ | exact flat_str _ | exact flat_nils) ?_)))) | (refine flatO_cons (flatO_arr ?_) ?_; (repeat (first | exact flate_nil | (refine flate_map (fun _ => ?_); (first | exact TWrite.flat _ | exact TFeedItem.flat _ | exact TIdx.flat _ | exact TVer.flat _ | (repeat (first | exact flatl_nil | (refine flatl_cons (by first | exact flat_is _ | exact flat_ik _ _ | exact flat_bool _ | exact flat_str _ | exact flat_nils) ?_))))) | (refine flate_rep ?_; (first | exact TWrite.flat _ | exact TFeedItem.flat _ | exact TIdx.flat _ | exact TVer.flat _ | (repeat (first | exact flatl_nil | (refine flatl_cons (by first | exact flat_is _ | exact flat_ik _ _ | exact flat_bool _ | exact flat_str _ | exact flat_nils) ?_))))) | (refine flate_cons ?_ ?_; (first | exact TWrite.flat _ | exact TFeedItem.flat _ | exact TIdx.flat _ | exact TVer.flat _ | (repeat (first | exact flatl_nil | (refine flatl_cons (by first | exact flat_is _ | exact flat_ik _ _ | exact flat_bool _ | exact flat_str _ | exact flat_nils) ?_))))) | refine flate_app ?_ ?_))))); done) | (intro _; (repeat (first | exact flatO_nil | (refine flatO_cons (flatO_box ?_) ?_; (repeat (first | exact flatl_nil | (refine flatl_cons (by first | exact flat_is _ | exact flat_ik _ _ | exact flat_bool _ | exact flat_str _ | exact flat_nils) ?_)))) | (refine flatO_cons (flatO_arr ?_) ?_; (repeat (first | exact flate_nil | (refine flate_map (fun _ => ?_); (first | exact TWrite.flat _ | exact TFeedItem.flat _ | exact TIdx.flat _ | exact TVer.flat _ | (repeat (first | exact flatl_nil | (refine flatl_cons (by first | exact flat_is _ | exact flat_ik _ _ | exact flat_bool _ | exact flat_str _ | exact flat_nils) ?_))))) | (refine flate_rep ?_; (first | exact TWrite.flat _ | exact TFeedItem.flat _ | exact TIdx.flat _ | exact TVer.flat _ | (repeat (first | exact flatl_nil | (refine flatl_cons (by first | exact flat_is _ | exact flat_ik _ _ | exact flat_bool _ | exact flat_str _ | exact flat_nils) ?_))))) | (refine flate_cons ?_ ?_; (first | exact TWrite.flat _ | exact TFeedItem.flat _ | exact TIdx.flat _ | exact TVer.flat _ | (repeat (first | exact flatl_nil | (refine flatl_cons (by first | exact flat_is _ | exact flat_ik _ _ | exact flat_bool _ | exact flat_str _ | exact flat_nils) ?_))))) | refine flate_app ?_ ?_))))); done)) (by first | exact flatO_nil | (intro _; exact flatO_nil) | (intro _; first | exact flat_is _ | exact flat_ik _ _ | exact flat_bool _ | exact flat_str _ | exact flat_nils) | (intro _; refine flat_tup ?_; (repeat (first | exact flatl_nil | (refine flatl_cons (by first | (first | exact flat_is _ | exact flat_ik _ _ | exact flat_bool _ | exact flat_str _ | exact flat_nils) | (refine flat_agg ?_; (repeat (first | exact flatl_nil | (refine flatl_cons (by first | exact flat_is _ | exact flat_ik _ _ | exact flat_bool _ | exact flat_str _ | exact flat_nils) ?_))))) ?_))); done) | (intro _; refine flat_agg ?_; (repeat (first | exact flatl_nil | (refine flatl_cons (by first | exact flat_is _ | exact flat_ik _ _ | exact flat_bool _ | exact flat_str _ | exact flat_nils) ?_))); done) | ((repeat (first | exact flatO_nil | (refine flatO_cons (flatO_box ?_) ?_; (repeat (first | exact flatl_nil | (refine flatl_cons (by first | exact flat_is _ | exact flat_ik _ _ | exact flat_bool _ | exact flat_str _ | exact flat_nils) ?_)))) | (refine flatO_cons (flatO_arr ?_) ?_; (repeat (first | exact flate_nil | (refine flate_map (fun _ => ?_); (first | exact TWrite.flat _ | exact TFeedItem.flat _ | exact TIdx.flat _ | exact TVer.flat _ | (repeat (first | exact flatl_nil | (refine flatl_cons (by first | exact flat_is _ | exact flat_ik _ _ | exact flat_bool _ | exact flat_str _ | exact flat_nils) ?_))))) | (refine flate_rep ?_; (first | exact TWrite.flat _ | exact TFeedItem.flat _ | exact TIdx.flat _ | exact TVer.flat _ | (repeat (first | exact flatl_nil | (refine flatl_cons (by first | exact flat_is _ | exact flat_ik _ _ | exact flat_bool _ | exact flat_str _ | exact flat_nils) ?_))))) | (refine flate_cons ?_ ?_; (first | exact TWrite.flat _ | exact TFeedItem.flat _ | exact TIdx.flat _ | exact TVer.flat _ | (repeat (first | exact flatl_nil | (refine flatl_cons (by first | exact flat_is _ | exact flat_ik _ _ | exact flat_bool _ | exact flat_str _ | exact flat_nils) ?_))))) | refine flate_app ?_ ?_))))); done) | (intro _; (repeat (first | exact flatO_nil | (refine flatO_cons (flatO_box ?_) ?_; (repeat (first | exact flatl_nil | (refine flatl_cons (by first | exact flat_is _ | exact flat_ik _ _ | exact flat_bool _ | exact flat_str _ | exact flat_nils) ?_)))) | (refine flatO_cons (flatO_arr ?_) ?_; (repeat (first | exact flate_nil | (refine flate_map (fun _ => ?_); (first | exact TWrite.flat _ | exact TFeedItem.flat _ | exact TIdx.flat _ | exact TVer.flat _ | (repeat (first | exact flatl_nil | (refine flatl_cons (by first | exact flat_is _ | exact flat_ik _ _ | exact flat_bool _ | exact flat_str _ | exact flat_nils) ?_))))) | (refine flate_rep ?_; (first | exact TWrite.flat _ | exact TFeedItem.flat _ | exact TIdx.flat _ | exact TVer.flat _ | (repeat (first | exact flatl_nil | (refine flatl_cons (by first | exact flat_is _ | exact flat_ik _ _ | exact flat_bool _ | exact flat_str _ | exact flat_nils) ?_))))) | (refine flate_cons ?_ ?_; (first | exact TWrite.flat _ | exact TFeedItem.flat _ | exact TIdx.flat _ | exact TVer.flat _ | (repeat (first | exact flatl_nil | (refine flatl_cons (by first | exact flat_is _ | exact flat_ik _ _ | exact flat_bool _ | exact flat_str _ | exact flat_nils) ?_))))) | refine flate_app ?_ ?_))))); done)) ?_
    intro x24 ok24
    refine sq_storeB0 2 rfl rfl rfl (ev_tmp rfl) (ev_tmp rfl) (as_agg _) rfl Try.sizeOf33 rfl ?_
    refine sq_plain rfl rfl rfl (w_assign rfl ev_cb) ?_
    refine sq_nil ?_
    refine awp_ret ?_
    exact retG [0, 0] (x24.1, x24.2) (trivial) rfl (by rfl) (resN rfl (by decide) (rv_cons (rv_cell (ys := _) 2 rfl rfl Try.isAgg33 Try.sizeOf33 rfl) (rv_cons (rv_tmp' rfl (by rfl)) rv_nil)))
theorem newMoveS_spec (a b : Str) (l : List TWrite) (ha : a.length ≤ 1048576) (hb : b.length ≤ 1048576) (hl : sizeL TWrite.size l ≤ 1048576) : FSpec Try.prog 31 [AV.str a, AV.str b, AV.list 3 (l.map TWrite.cs)] (AV.tup [AV.agg (newMoveS a b l).1.cs, AV.bool (newMoveS a b l).2]) :=
  fspec_of_gspec (newMoveS_own a b l ha hb hl) fun x _ => lt_tup (lc_cons (lt_agg (TMove.lc _ x)) (lc_cons lt_refl lc_nil))
end Go.Proofs.Ytinakggafbidcaa
