/- Walks: migrations begun and copied. -/
import Derived.Test.YtdbmaekdejhobaaMove4M
import Derived.Test.YtdbmaekdejhobaaMove3W
import Derived.Test.YtdbmaekdejhobaaMarkW
set_option linter.unusedVariables false
set_option linter.unusedSimpArgs false
set_option maxRecDepth 100000
namespace Go.Proofs.Ytdbmaekdejhobaa
open Go Go.AV Go.M
attribute [local irreducible] OpW OpA OpS AWP FSpec ESpec GSpec OpE RetOk RetOkG RvDen Le Ev GuardIs
theorem copyMove_own (m : TMove) (hs : m.size ≤ 4194304) : GSpec Try.prog 70 [AV.agg m.cs] [] (fun _ : Value × Value => True) (fun x => TMove.ow m x) (fun x => AV.agg (TMove.ocs m x)) := by
  unfold TMove.size at hs
  have hf : m.From.length ≤ 4194304 := Nat.le_trans sizeL_len (show sizeL TWrite.size m.From ≤ 4194304 by omega)
  have ht : m.To.length ≤ 4194304 := Nat.le_trans sizeL_len (show sizeL TWrite.size m.To ≤ 4194304 by omega)
  refine gspec_of_awp Try.func70 rfl Try.ntmps70 rfl ?_
  refine awp_seq ?_
  refine awp_region ?_
  refine sq_box rfl rfl rfl rfl (ev_tmp rfl) ?_
  intro b1
  refine sq_alloc rfl rfl rfl rfl Try.zeroValue27 rfl ?_
  intro b2
  refine sq_nil ?_
  refine awp_seq ?_
  refine awp_region_mix _ [(0, false), (1, false), (3, false), (4, false), (2, true), (6, false), (5, true)] (by kernel_rfl) (by kernel_rfl) rfl invx_self ?_
  refine bc_plain rfl rfl rfl (fun ext => w_fldBn 3 rfl Try.underlying27 rfl Try.sizeOf23 (ev_tmp rfl) rfl) ?_
  refine bc_plain rfl rfl rfl (fun ext => w_loadB1 1 rfl (ev_tmp rfl) rfl Try.isAgg23 rfl) ?_
  refine bc_plain rfl rfl rfl (fun ext => w_fldBn 4 rfl Try.underlying27 rfl Try.sizeOf23 (ev_tmp rfl) rfl) ?_
  refine bc_plain rfl rfl rfl (fun ext => w_loadB1 1 rfl (ev_tmp rfl) rfl Try.isAgg23 rfl) ?_
  refine bc_eff rfl rfl rfl (opE_call [] rfl Try.call149 rfl (cloneWrite_spec _ (by first | assumption | omega)) (evl_cons (ev_tmp rfl) evl_nil) rfl) (fun a _ => (by first | exact invx_mk rfl | exact invx_mk (List.append_assoc _ _ _) | exact invx_all)) ?_
  intro x5 ok5
  refine bc_plain rfl rfl rfl (fun ext => w_fldBn 3 rfl Try.underlying27 rfl Try.sizeOf23 (ev_tmp rfl) rfl) ?_
  refine bc_eff rfl rfl rfl (opE_call [] rfl Try.call149 rfl (cloneWrite_spec _ (by first | assumption | omega)) (evl_cons (ev_tmp rfl) evl_nil) rfl) (fun a _ => (by first | exact invx_mk rfl | exact invx_mk (List.append_assoc _ _ _) | exact invx_all)) ?_
  intro x8 ok8
  refine bc_nil ?_
  refine sq_fact 2 rfl fun one_x5 => ?_
  refine sq_storeB1 1 rfl rfl rfl (ev_tmp rfl) (ev_tmp rfl) (as_is one_x5) rfl Try.sizeOf23 rfl ?_
  refine sq_plain rfl rfl rfl (w_fldBn 4 rfl Try.underlying27 rfl Try.sizeOf23 (ev_tmp rfl) rfl) ?_
  refine sq_fact 3 rfl fun one_x8 => ?_
  refine sq_storeB1 1 rfl rfl rfl (ev_tmp rfl) (ev_tmp rfl) (as_is one_x8) rfl Try.sizeOf23 rfl ?_
  refine sq_nil ?_
  refine awp_seq ?_
  refine awp_region ?_
  refine sq_plain rfl rfl rfl (w_loadA 1 rfl (ev_tmp rfl) rfl Try.isAgg27 Try.sizeOf27 rfl) ?_
  refine sq_storeB0 0 rfl rfl rfl (ev_tmp rfl) (ev_tmp rfl) (as_agg _) rfl Try.sizeOf27 rfl ?_
  refine sq_nil ?_
  refine awp_ret ?_
  exact retG [2, 2] (x5, x8) (trivial) rfl (by rfl) (resR rfl (rv_cell (ys := _) 0 rfl rfl Try.isAgg27 Try.sizeOf27 rfl))
theorem l22Own_own (m : TMove) (hs : m.size ≤ 4194304) : GSpec Try.prog 81 [AV.agg m.cs] [] (fun _ : Value × Value => True) (fun x => TMove.ow m x) (fun x => AV.agg (TMove.ocs m x)) := by
  unfold TMove.size at hs
  have hf : m.From.length ≤ 4194304 := Nat.le_trans sizeL_len (show sizeL TWrite.size m.From ≤ 4194304 by omega)
  have ht : m.To.length ≤ 4194304 := Nat.le_trans sizeL_len (show sizeL TWrite.size m.To ≤ 4194304 by omega)
  refine gspec_of_awp Try.func81 rfl Try.ntmps81 rfl ?_
  refine awp_seq ?_
  refine awp_region ?_
  refine sq_box rfl rfl rfl rfl (ev_tmp rfl) ?_
  intro b1
  refine sq_alloc rfl rfl rfl rfl Try.zeroValue27 rfl ?_
  intro b2
  refine sq_nil ?_
  refine awp_seq ?_
  refine awp_region ?_
  refine sq_emptyarr rfl rfl rfl rfl Try.underlying23 Try.sizeOf37 ?_
  intro v3
  refine sq_plain rfl rfl rfl (w_fldBn 3 rfl Try.underlying27 rfl Try.sizeOf23 (ev_tmp rfl) rfl) ?_
  refine sq_plain rfl rfl rfl (w_loadB1 2 rfl (ev_tmp rfl) rfl Try.isAgg23 rfl) ?_
  refine sq_append (by' := 40) 0 rfl rfl rfl rfl Try.underlying23 Try.type37 rfl rfl rfl rfl rfl rfl (ev_tmp rfl) (ev_tmp rfl) rfl (by first | omega | ((try simp only [List.length_map, List.length_take, List.length_cons, List.length_nil, chunks_len, szR] at *); omega) | (have hc2 := hc; simp only [Bool.and_eq_true, Bool.or_eq_true, Bool.or_eq_false_iff, Bool.and_eq_false_iff, Bool.not_eq_true', Bool.not_eq_false', decide_eq_true_eq, decide_eq_false_iff_not, beq_iff_eq, bne_iff_ne, List.length_map, List.length_take] at hc2; omega)) ?_
  intro v6_1
  refine sq_plain rfl rfl rfl (w_fldBn 3 rfl Try.underlying27 rfl Try.sizeOf23 (ev_tmp rfl) rfl) ?_
  refine sq_fact 0 rfl fun one_v6_1 => ?_
  refine sq_storeB1 2 rfl rfl rfl (ev_tmp rfl) (ev_tmp rfl) (as_is one_v6_1) rfl Try.sizeOf23 rfl ?_
  refine sq_nil ?_
  refine awp_seq ?_
  refine awp_region ?_
  refine sq_emptyarr rfl rfl rfl rfl Try.underlying23 Try.sizeOf37 ?_
  intro v8
  refine sq_plain rfl rfl rfl (w_fldBn 4 rfl Try.underlying27 rfl Try.sizeOf23 (ev_tmp rfl) rfl) ?_
  refine sq_plain rfl rfl rfl (w_loadB1 3 rfl (ev_tmp rfl) rfl Try.isAgg23 rfl) ?_
  refine sq_append (by' := 40) 0 rfl rfl rfl rfl Try.underlying23 Try.type37 rfl rfl rfl rfl rfl rfl (ev_tmp rfl) (ev_tmp rfl) rfl (by first | omega | ((try simp only [List.length_map, List.length_take, List.length_cons, List.length_nil, chunks_len, szR] at *); omega) | (have hc2 := hc; simp only [Bool.and_eq_true, Bool.or_eq_true, Bool.or_eq_false_iff, Bool.and_eq_false_iff, Bool.not_eq_true', Bool.not_eq_false', decide_eq_true_eq, decide_eq_false_iff_not, beq_iff_eq, bne_iff_ne, List.length_map, List.length_take] at hc2; omega)) ?_
  intro v11_2
  refine sq_plain rfl rfl rfl (w_fldBn 4 rfl Try.underlying27 rfl Try.sizeOf23 (ev_tmp rfl) rfl) ?_
  refine sq_fact 0 rfl fun one_v11_2 => ?_
  refine sq_storeB1 3 rfl rfl rfl (ev_tmp rfl) (ev_tmp rfl) (as_is one_v11_2) rfl Try.sizeOf23 rfl ?_
  refine sq_nil ?_
  refine awp_seq ?_
  refine awp_region ?_
  refine sq_plain rfl rfl rfl (w_loadA 3 rfl (ev_tmp rfl) rfl Try.isAgg27 Try.sizeOf27 rfl) ?_
  refine sq_storeB0 2 rfl rfl rfl (ev_tmp rfl) (ev_tmp rfl) (as_agg _) rfl Try.sizeOf27 rfl ?_
  refine sq_nil ?_
  refine awp_ret ?_
  exact retG [1, 0] (v6_1, v11_2) (trivial) rfl (by rfl) (resR rfl (rv_cell (ys := _) 2 rfl rfl Try.isAgg27 Try.sizeOf27 rfl))
theorem newMove_own (a b : Str) (l : List TWrite) (ha : a.length ≤ 1048576) (hb : b.length ≤ 1048576) (hl : sizeL TWrite.size l ≤ 1048576) : GSpec Try.prog 10 [AV.str a, AV.str b, AV.list 3 (l.map TWrite.cs)] [] (fun _ : Value × Value => True) (fun x => TMove.ow (newMove a b l).1 x) (fun x => AV.tup [AV.agg (TMove.ocs (newMove a b l).1 x), AV.bool (newMove a b l).2]) := by
  have hs : (mkMove a b l).size ≤ 4194304 := by unfold mkMove TMove.size sizeL; simp; unfold sizeL at hl; omega
  refine gspec_of_awp Try.func10 rfl Try.ntmps10 rfl ?_
  refine awp_seq ?_
  refine awp_region ?_
  refine sq_alloc rfl rfl rfl rfl Try.zeroValue27 rfl ?_
  intro b6
  refine sq_plain rfl rfl rfl (w_assign rfl ev_cb) ?_
  refine sq_nil ?_
  refine awp_seq ?_
  refine awp_region ?_
  refine sq_plain rfl rfl rfl (w_move rfl (ev_tmp rfl)) ?_
  refine sq_plain rfl rfl rfl (w_move rfl (ev_tmp rfl)) ?_
  refine sq_plain rfl rfl rfl (w_move rfl (ev_tmp rfl)) ?_
  refine sq_plain rfl rfl rfl (w_build (places := #[(0, 1), (1, 1), (2, 1), (3, 1), (4, 1), (5, 1), (6, 1)]) rfl Try.underlying27 Try.zeroValue27 (fun w => by kernel_rfl) rfl (bp_cons (ev_tmp rfl) (as_str _) (bp_cons (ev_tmp rfl) (as_str _) (bp_cons ev_ci (as_ik _ _) (bp_cons (ev_tmp rfl) (as_list _ _) bp_nil)))) rfl) ?_
  refine sq_callGB [] rfl rfl rfl rfl Try.call70 rfl (copyMove_own (mkMove a b l) hs) rfl (evlb_cons (evb_lt (ev_tmp rfl) (lt_agg (lc_cons lt_refl (lc_cons lt_refl (lc_cons lt_refl (lc_cons lt_refl (lc_cons lt_nils (lc_cons lt_refl (lc_cons lt_refl lc_nil))))))))) evlb_nil) (by first | exact flatO_nil | (intro _; exact flatO_nil) | (intro _; first | exact flat_is _ | exact flat_ik _ _ | exact flat_bool _ | exact flat_str _ | exact flat_nils) | (intro _; refine flat_tup ?_; (repeat (first | exact flatl_nil | (refine flatl_cons (by first | (first | exact flat_is _ | exact flat_ik _ _ | exact flat_bool _ | exact flat_str _ | exact flat_nils) | (refine flat_agg ?_; (repeat (first | exact flatl_nil | (refine flatl_cons (by first | exact flat_is _ | exact flat_ik _ _ | exact flat_bool _ | exact flat_str _ | exact flat_nils) ?_))))) ?_))); done) | (intro _; refine flat_agg ?_; (repeat (first | exact flatl_nil | (refine flatl_cons (by first | exact flat_is _ | exact flat_ik _ _ | exact flat_bool _ | exact flat_str _ | exact flat_nils) ?_))); done) | ((repeat (first | exact flatO_nil | (refine flatO_cons (flatO_box ?_) ?_; (repeat (first | exact flatl_nil | (refine flatl_cons (by first | exact flat_is _ | exact flat_ik _ _ | exact flat_bool _ | exact flat_str _ | exact flat_nils) ?_)))) | (refine flatO_cons (flatO_arr ?_) ?_; (repeat (first | exact flate_nil | (refine flate_map (fun _ => ?_); (first | exact TWrite.flat _ | exact TFeedItem.flat _ | exact TIdx.flat _ | exact TVer.flat _ | (repeat (first | exact flatl_nil | (refine flatl_cons (by first | exact flat_is _ | exact flat_ik _ _ | exact flat_bool _ | exact flat_str _ | exact flat_nils) ?_))))) | (refine flate_rep ?_; (first | exact TWrite.flat _ | exact TFeedItem.flat _ | exact TIdx.flat _ | exact TVer.flat _ | (repeat (first | exact flatl_nil | (refine flatl_cons (by first | exact flat_is _ | exact flat_ik _ _ | exact flat_bool _ | exact flat_str _ | exact flat_nils) ?_))))) | (refine flate_cons ?_ ?_; (first | exact TWrite.flat _ | exact TFeedItem.flat _ | exact TIdx.flat _ | exact TVer.flat _ | (repeat (first | exact flatl_nil | (refine flatl_cons (by first | exact flat_is _ | exact flat_ik _ _ | exact flat_bool _ | exact flat_str _ | exact flat_nils) ?_))))) | refine flate_app ?_ ?_))))); done) | (intro _; (repeat (first | exact flatO_nil | (refine flatO_cons (flatO_box ?_) ?_; (repeat (first | exact flatl_nil | (refine flatl_cons (by first | exact flat_is _ | exact flat_ik _ _ | exact flat_bool _ | exact flat_str _ | exact flat_nils) ?_)))) | (refine flatO_cons (flatO_arr ?_) ?_; (repeat (first | exact flate_nil | (refine flate_map (fun _ => ?_); (first | exact TWrite.flat _ | exact TFeedItem.flat _ | exact TIdx.flat _ | exact TVer.flat _ | (repeat (first | exact flatl_nil | (refine flatl_cons (by first | exact flat_is _ | exact flat_ik _ _ | exact flat_bool _ | exact flat_str _ | exact flat_nils) ?_))))) | (refine flate_rep ?_; (first | exact TWrite.flat _ | exact TFeedItem.flat _ | exact TIdx.flat _ | exact TVer.flat _ | (repeat (first | exact flatl_nil | (refine flatl_cons (by first | exact flat_is _ | exact flat_ik _ _ | exact flat_bool _ | exact flat_str _ | exact flat_nils) ?_))))) | (refine flate_cons ?_ ?_; (first | exact TWrite.flat _ | exact TFeedItem.flat _ | exact TIdx.flat _ | exact TVer.flat _ | (repeat (first | exact flatl_nil | (refine flatl_cons (by first | exact flat_is _ | exact flat_ik _ _ | exact flat_bool _ | exact flat_str _ | exact flat_nils) ?_))))) | refine flate_app ?_ ?_))))); done)) (by first | exact flatO_nil | (intro _; exact flatO_nil) | (intro _; first | exact flat_is _ | exact flat_ik _ _ | exact flat_bool _ | exact flat_str _ | exact flat_nils) | (intro _; refine flat_tup ?_; (repeat (first | exact flatl_nil | (refine flatl_cons (by first | (first | exact flat_is _ | exact flat_ik _ _ | exact flat_bool _ | exact flat_str _ | exact flat_nils) | (refine flat_agg ?_; (repeat (first | exact flatl_nil | (refine flatl_cons (by first | exact flat_is _ | exact flat_ik _ _ | exact flat_bool _ | exact flat_str _ | exact flat_nils) ?_))))) ?_))); done) | (intro _; refine flat_agg ?_; (repeat (first | exact flatl_nil | (refine flatl_cons (by first | exact flat_is _ | exact flat_ik _ _ | exact flat_bool _ | exact flat_str _ | exact flat_nils) ?_))); done) | ((repeat (first | exact flatO_nil | (refine flatO_cons (flatO_box ?_) ?_; (repeat (first | exact flatl_nil | (refine flatl_cons (by first | exact flat_is _ | exact flat_ik _ _ | exact flat_bool _ | exact flat_str _ | exact flat_nils) ?_)))) | (refine flatO_cons (flatO_arr ?_) ?_; (repeat (first | exact flate_nil | (refine flate_map (fun _ => ?_); (first | exact TWrite.flat _ | exact TFeedItem.flat _ | exact TIdx.flat _ | exact TVer.flat _ | (repeat (first | exact flatl_nil | (refine flatl_cons (by first | exact flat_is _ | exact flat_ik _ _ | exact flat_bool _ | exact flat_str _ | exact flat_nils) ?_))))) | (refine flate_rep ?_; (first | exact TWrite.flat _ | exact TFeedItem.flat _ | exact TIdx.flat _ | exact TVer.flat _ | (repeat (first | exact flatl_nil | (refine flatl_cons (by first | exact flat_is _ | exact flat_ik _ _ | exact flat_bool _ | exact flat_str _ | exact flat_nils) ?_))))) | (refine flate_cons ?_ ?_; (first | exact TWrite.flat _ | exact TFeedItem.flat _ | exact TIdx.flat _ | exact TVer.flat _ | (repeat (first | exact flatl_nil | (refine flatl_cons (by first | exact flat_is _ | exact flat_ik _ _ | exact flat_bool _ | exact flat_str _ | exact flat_nils) ?_))))) | refine flate_app ?_ ?_))))); done) | (intro _; (repeat (first | exact flatO_nil | (refine flatO_cons (flatO_box ?_) ?_; (repeat (first | exact flatl_nil | (refine flatl_cons (by first | exact flat_is _ | exact flat_ik _ _ | exact flat_bool _ | exact flat_str _ | exact flat_nils) ?_)))) | (refine flatO_cons (flatO_arr ?_) ?_; (repeat (first | exact flate_nil | (refine flate_map (fun _ => ?_); (first | exact TWrite.flat _ | exact TFeedItem.flat _ | exact TIdx.flat _ | exact TVer.flat _ | (repeat (first | exact flatl_nil | (refine flatl_cons (by first | exact flat_is _ | exact flat_ik _ _ | exact flat_bool _ | exact flat_str _ | exact flat_nils) ?_))))) | (refine flate_rep ?_; (first | exact TWrite.flat _ | exact TFeedItem.flat _ | exact TIdx.flat _ | exact TVer.flat _ | (repeat (first | exact flatl_nil | (refine flatl_cons (by first | exact flat_is _ | exact flat_ik _ _ | exact flat_bool _ | exact flat_str _ | exact flat_nils) ?_))))) | (refine flate_cons ?_ ?_; (first | exact TWrite.flat _ | exact TFeedItem.flat _ | exact TIdx.flat _ | exact TVer.flat _ | (repeat (first | exact flatl_nil | (refine flatl_cons (by first | exact flat_is _ | exact flat_ik _ _ | exact flat_bool _ | exact flat_str _ | exact flat_nils) ?_))))) | refine flate_app ?_ ?_))))); done)) (by first | exact flatO_nil | (intro _; exact flatO_nil) | (intro _; first | exact flat_is _ | exact flat_ik _ _ | exact flat_bool _ | exact flat_str _ | exact flat_nils) | (intro _; refine flat_tup ?_; (repeat (first | exact flatl_nil | (refine flatl_cons (by first | (first | exact flat_is _ | exact flat_ik _ _ | exact flat_bool _ | exact flat_str _ | exact flat_nils) | (refine flat_agg ?_; (repeat (first | exact flatl_nil | (refine flatl_cons (by first | exact flat_is _ | exact flat_ik _ _ | exact flat_bool _ | exact flat_str _ | exact flat_nils) ?_))))) ?_))); done) | (intro _; refine flat_agg ?_; (repeat (first | exact flatl_nil | (refine flatl_cons (by first | exact flat_is _ | exact flat_ik _ _ | exact flat_bool _ | exact flat_str _ | exact flat_nils) ?_))); done) | ((repeat (first | exact flatO_nil | (refine flatO_cons (flatO_box ?_) ?_; (repeat (first | exact flatl_nil | (refine flatl_cons (by first | exact flat_is _ | exact flat_ik _ _ | exact flat_bool _ | exact flat_str _ | exact flat_nils) ?_)))) | (refine flatO_cons (flatO_arr ?_) ?_; (repeat (first | exact flate_nil | (refine flate_map (fun _ => ?_); (first | exact TWrite.flat _ | exact TFeedItem.flat _ | exact TIdx.flat _ | exact TVer.flat _ | (repeat (first | exact flatl_nil | (refine flatl_cons (by first | exact flat_is _ | exact flat_ik _ _ | exact flat_bool _ | exact flat_str _ | exact flat_nils) ?_))))) | (refine flate_rep ?_; (first | exact TWrite.flat _ | exact TFeedItem.flat _ | exact TIdx.flat _ | exact TVer.flat _ | (repeat (first | exact flatl_nil | (refine flatl_cons (by first | exact flat_is _ | exact flat_ik _ _ | exact flat_bool _ | exact flat_str _ | exact flat_nils) ?_))))) | (refine flate_cons ?_ ?_; (first | exact TWrite.flat _ | exact TFeedItem.flat _ | exact TIdx.flat _ | exact TVer.flat _ | (repeat (first | exact flatl_nil | (refine flatl_cons (by first | exact flat_is _ | exact flat_ik _ _ | exact flat_bool _ | exact flat_str _ | exact flat_nils) ?_))))) | refine flate_app ?_ ?_))))); done) | (intro _; (repeat (first | exact flatO_nil | (refine flatO_cons (flatO_box ?_) ?_; (repeat (first | exact flatl_nil | (refine flatl_cons (by first | exact flat_is _ | exact flat_ik _ _ | exact flat_bool _ | exact flat_str _ | exact flat_nils) ?_)))) | (refine flatO_cons (flatO_arr ?_) ?_; (repeat (first | exact flate_nil | (refine flate_map (fun _ => ?_); (first | exact TWrite.flat _ | exact TFeedItem.flat _ | exact TIdx.flat _ | exact TVer.flat _ | (repeat (first | exact flatl_nil | (refine flatl_cons (by first | exact flat_is _ | exact flat_ik _ _ | exact flat_bool _ | exact flat_str _ | exact flat_nils) ?_))))) | (refine flate_rep ?_; (first | exact TWrite.flat _ | exact TFeedItem.flat _ | exact TIdx.flat _ | exact TVer.flat _ | (repeat (first | exact flatl_nil | (refine flatl_cons (by first | exact flat_is _ | exact flat_ik _ _ | exact flat_bool _ | exact flat_str _ | exact flat_nils) ?_))))) | (refine flate_cons ?_ ?_; (first | exact TWrite.flat _ | exact TFeedItem.flat _ | exact TIdx.flat _ | exact TVer.flat _ | (repeat (first | exact flatl_nil | (refine flatl_cons (by first | exact flat_is _ | exact flat_ik _ _ | exact flat_bool _ | exact flat_str _ | exact flat_nils) ?_))))) | refine flate_app ?_ ?_))))); done)) ?_
  intro x13 ok13
  refine sq_alloc rfl rfl rfl rfl Try.zeroValue27 rfl ?_
  intro b8
  refine sq_storeB0 0 rfl rfl rfl (ev_tmp rfl) (ev_tmp rfl) (as_agg _) rfl Try.sizeOf27 rfl ?_
  refine sq_nil ?_
  refine awp_seq ?_
  refine awp_seq ?_
  refine awp_region ?_
  refine sq_plain rfl rfl rfl (w_loadA 0 rfl (ev_tmp rfl) rfl Try.isAgg27 Try.sizeOf27 rfl) ?_
  refine sq_plain rfl rfl rfl (w_callB rfl Try.call71 rfl (goodMove_spec (mkMove a b l) hs) (flat_bool _) (evlb_cons (evb_lt (ev_tmp rfl) (lt_agg (lc_cons lt_refl (lc_cons lt_refl (lc_cons lt_refl (lc_cons (lt_arr (List.mem_of_getElem? (i := 1) rfl) le_refl_e) (lc_cons (lt_arr (List.mem_of_getElem? (i := 2) rfl) le_refl_e) (lc_cons lt_refl (lc_cons lt_refl lc_nil))))))))) evlb_nil)) ?_
  refine sq_plain rfl rfl rfl (w_not rfl (ev_tmp rfl)) ?_
  refine sq_nil ?_
  refine awp_cond (ev_tmp rfl) ?_ ?_
  · intro h16
    have he : newMove a b l = (noMove, false) := by unfold newMove; rw [if_pos h16]
    rw [he]
    refine awp_seq ?_
    refine awp_region ?_
    refine sq_plain rfl rfl rfl (w_build (places := #[(0, 1), (1, 1), (2, 1), (3, 1), (4, 1), (5, 1), (6, 1)]) rfl Try.underlying27 Try.zeroValue27 (fun w => by kernel_rfl) rfl bp_nil rfl) ?_
    refine sq_storeB0 3 rfl rfl rfl (ev_tmp rfl) (ev_tmp rfl) (as_agg _) rfl Try.sizeOf27 rfl ?_
    refine sq_plain rfl rfl rfl (w_assign rfl ev_cb) ?_
    refine sq_nil ?_
    refine awp_ret ?_
    refine retG_nil 37 3 ?_
    refine retG_nil 37 3 ?_
    exact retG [1, 0] ((Value.slice none 0 0), (Value.slice none 0 0)) (trivial) rfl (by rfl) (resN rfl (by decide) (rv_cons (rv_cell (ys := _) 5 rfl rfl Try.isAgg27 Try.sizeOf27 rfl) (rv_cons (rv_tmp' rfl (by rfl)) rv_nil)))
  · intro h16
    have he : newMove a b l = (mkMove a b l, true) := by unfold newMove; rw [if_neg (by rw [h16]; decide)]
    rw [he]
    refine awp_skip ?_
    refine awp_seq ?_
    refine awp_region ?_
    refine sq_plain rfl rfl rfl (w_loadA 0 rfl (ev_tmp rfl) rfl Try.isAgg27 Try.sizeOf27 rfl) ?_
    refine sq_storeB0 3 rfl rfl rfl (ev_tmp rfl) (ev_tmp rfl) (as_agg _) rfl Try.sizeOf27 rfl ?_
    refine sq_plain rfl rfl rfl (w_assign rfl ev_cb) ?_
    refine sq_nil ?_
    refine awp_ret ?_
    exact retG [1, 1] (x13.1, x13.2) (trivial) rfl (by rfl) (resN rfl (by decide) (rv_cons (rv_cell (ys := _) 3 rfl rfl Try.isAgg27 Try.sizeOf27 rfl) (rv_cons (rv_tmp' rfl (by rfl)) rv_nil)))
theorem newMoveS_own (a b : Str) (l : List TWrite) (ha : a.length ≤ 1048576) (hb : b.length ≤ 1048576) (hl : sizeL TWrite.size l ≤ 1048576) : GSpec Try.prog 14 [AV.str a, AV.str b, AV.list 3 (l.map TWrite.cs)] [] (fun _ : Value × Value => True) (fun x => TMove.ow (newMoveS a b l).1 x) (fun x => AV.tup [AV.agg (TMove.ocs (newMoveS a b l).1 x), AV.bool (newMoveS a b l).2]) := by
  have hs : (mkMove a b l).size ≤ 4194304 := by unfold mkMove TMove.size sizeL; simp; unfold sizeL at hl; omega
  refine gspec_of_awp Try.func14 rfl Try.ntmps14 rfl ?_
  refine awp_seq ?_
  refine awp_region ?_
  refine sq_alloc rfl rfl rfl rfl Try.zeroValue27 rfl ?_
  intro b6
  refine sq_plain rfl rfl rfl (w_assign rfl ev_cb) ?_
  refine sq_nil ?_
  refine awp_seq ?_
  refine awp_seq ?_
  refine awp_region ?_
  refine sq_plain rfl rfl rfl (w_move rfl (ev_tmp rfl)) ?_
  refine sq_plain rfl rfl rfl (w_move rfl (ev_tmp rfl)) ?_
  refine sq_plain rfl rfl rfl (w_call rfl Try.call79 rfl (l22Ends_spec _ _ (by omega) (by omega)) (evl_cons (ev_tmp rfl) (evl_cons (ev_tmp rfl) evl_nil))) ?_
  refine sq_plain rfl rfl rfl (w_not rfl (ev_tmp rfl)) ?_
  refine sq_plain rfl rfl rfl (w_move rfl (ev_tmp rfl)) ?_
  refine sq_grd rfl rfl (guard_f rfl rfl rfl) (fun hc => w_move rfl (ev_tmp rfl)) ?_
  refine sq_grd rfl rfl (guard_f rfl rfl rfl) (fun hc => w_move rfl (ev_tmp rfl)) ?_
  refine sq_grd rfl rfl (guard_f rfl rfl rfl) (fun hc => w_move rfl (ev_tmp rfl)) ?_
  refine sq_grd rfl rfl (guard_f rfl rfl rfl) (fun hc => w_call rfl Try.call80 rfl (l22Rows_spec _ _ _ (by first | assumption | omega)) (evl_cons (ev_whn rfl hc) (evl_cons (ev_whn rfl hc) (evl_cons (ev_whn rfl hc) evl_nil)))) ?_
  refine sq_grd rfl rfl (guard_f rfl rfl rfl) (fun hc => w_not rfl (ev_whn rfl hc)) ?_
  refine sq_plain rfl rfl rfl (w_or rfl (ev_tmp rfl) (evif_w rfl)) ?_
  refine sq_nil ?_
  refine awp_cond (ev_tmp rfl) ?_ ?_
  · intro h18
    have he : newMoveS a b l = (noMove, false) := by unfold newMoveS; rw [if_pos h18]
    rw [he]
    refine awp_seq ?_
    refine awp_region ?_
    refine sq_plain rfl rfl rfl (w_build (places := #[(0, 1), (1, 1), (2, 1), (3, 1), (4, 1), (5, 1), (6, 1)]) rfl Try.underlying27 Try.zeroValue27 (fun w => by kernel_rfl) rfl bp_nil rfl) ?_
    refine sq_storeB0 0 rfl rfl rfl (ev_tmp rfl) (ev_tmp rfl) (as_agg _) rfl Try.sizeOf27 rfl ?_
    refine sq_plain rfl rfl rfl (w_assign rfl ev_cb) ?_
    refine sq_nil ?_
    refine awp_ret ?_
    refine retG_nil 37 3 ?_
    refine retG_nil 37 3 ?_
    exact retG [1, 0] ((Value.slice none 0 0), (Value.slice none 0 0)) (trivial) rfl (by rfl) (resN rfl (by decide) (rv_cons (rv_cell (ys := _) 2 rfl rfl Try.isAgg27 Try.sizeOf27 rfl) (rv_cons (rv_tmp' rfl (by rfl)) rv_nil)))
  · intro h18
    have he : newMoveS a b l = (mkMove a b l, true) := by unfold newMoveS; rw [if_neg (by rw [h18]; decide)]
    rw [he]
    refine awp_skip ?_
    refine awp_seq ?_
    refine awp_region ?_
    refine sq_plain rfl rfl rfl (w_move rfl (ev_tmp rfl)) ?_
    refine sq_plain rfl rfl rfl (w_move rfl (ev_tmp rfl)) ?_
    refine sq_plain rfl rfl rfl (w_move rfl (ev_tmp rfl)) ?_
    refine sq_plain rfl rfl rfl (w_build (places := #[(0, 1), (1, 1), (2, 1), (3, 1), (4, 1), (5, 1), (6, 1)]) rfl Try.underlying27 Try.zeroValue27 (fun w => by kernel_rfl) rfl (bp_cons (ev_tmp rfl) (as_str _) (bp_cons (ev_tmp rfl) (as_str _) (bp_cons ev_ci (as_ik _ _) (bp_cons (ev_tmp rfl) (as_list _ _) bp_nil)))) rfl) ?_
    refine sq_callGB [] rfl rfl rfl rfl Try.call81 rfl (l22Own_own (mkMove a b l) hs) rfl (evlb_cons (evb_lt (ev_tmp rfl) (lt_agg (lc_cons lt_refl (lc_cons lt_refl (lc_cons lt_refl (lc_cons lt_refl (lc_cons lt_nils (lc_cons lt_refl (lc_cons lt_refl lc_nil))))))))) evlb_nil) (by first | exact flatO_nil | (intro _; exact flatO_nil) | (intro _; first | exact flat_is _ | exact flat_ik _ _ | exact flat_bool _ | exact flat_str _ | exact flat_nils) | (intro _; refine flat_tup ?_; (repeat (first | exact flatl_nil | (refine flatl_cons (by first | (first | exact flat_is _ | exact flat_ik _ _ | exact flat_bool _ | exact flat_str _ | exact flat_nils) | (refine flat_agg ?_; (repeat (first | exact flatl_nil | (refine flatl_cons (by first | exact flat_is _ | exact flat_ik _ _ | exact flat_bool _ | exact flat_str _ | exact flat_nils) ?_))))) ?_))); done) | (intro _; refine flat_agg ?_; (repeat (first | exact flatl_nil | (refine flatl_cons (by first | exact flat_is _ | exact flat_ik _ _ | exact flat_bool _ | exact flat_str _ | exact flat_nils) ?_))); done) | ((repeat (first | exact flatO_nil | (refine flatO_cons (flatO_box ?_) ?_; (repeat (first | exact flatl_nil | (refine flatl_cons (by first | exact flat_is _ | exact flat_ik _ _ | exact flat_bool _ | exact flat_str _ | exact flat_nils) ?_)))) | (refine flatO_cons (flatO_arr ?_) ?_; (repeat (first | exact flate_nil | (refine flate_map (fun _ => ?_); (first | exact TWrite.flat _ | exact TFeedItem.flat _ | exact TIdx.flat _ | exact TVer.flat _ | (repeat (first | exact flatl_nil | (refine flatl_cons (by first | exact flat_is _ | exact flat_ik _ _ | exact flat_bool _ | exact flat_str _ | exact flat_nils) ?_))))) | (refine flate_rep ?_; (first | exact TWrite.flat _ | exact TFeedItem.flat _ | exact TIdx.flat _ | exact TVer.flat _ | (repeat (first | exact flatl_nil | (refine flatl_cons (by first | exact flat_is _ | exact flat_ik _ _ | exact flat_bool _ | exact flat_str _ | exact flat_nils) ?_))))) | (refine flate_cons ?_ ?_; (first | exact TWrite.flat _ | exact TFeedItem.flat _ | exact TIdx.flat _ | exact TVer.flat _ | (repeat (first | exact flatl_nil | (refine flatl_cons (by first | exact flat_is _ | exact flat_ik _ _ | exact flat_bool _ | exact flat_str _ | exact flat_nils) ?_))))) | refine flate_app ?_ ?_))))); done) | (intro _; (repeat (first | exact flatO_nil | (refine flatO_cons (flatO_box ?_) ?_; (repeat (first | exact flatl_nil | (refine flatl_cons (by first | exact flat_is _ | exact flat_ik _ _ | exact flat_bool _ | exact flat_str _ | exact flat_nils) ?_)))) | (refine flatO_cons (flatO_arr ?_) ?_; (repeat (first | exact flate_nil | (refine flate_map (fun _ => ?_); (first | exact TWrite.flat _ | exact TFeedItem.flat _ | exact TIdx.flat _ | exact TVer.flat _ | (repeat (first | exact flatl_nil | (refine flatl_cons (by first | exact flat_is _ | exact flat_ik _ _ | exact flat_bool _ | exact flat_str _ | exact flat_nils) ?_))))) | (refine flate_rep ?_; (first | exact TWrite.flat _ | exact TFeedItem.flat _ | exact TIdx.flat _ | exact TVer.flat _ | (repeat (first | exact flatl_nil | (refine flatl_cons (by first | exact flat_is _ | exact flat_ik _ _ | exact flat_bool _ | exact flat_str _ | exact flat_nils) ?_))))) | (refine flate_cons ?_ ?_; (first | exact TWrite.flat _ | exact TFeedItem.flat _ | exact TIdx.flat _ | exact TVer.flat _ | (repeat (first | exact flatl_nil | (refine flatl_cons (by first | exact flat_is _ | exact flat_ik _ _ | exact flat_bool _ | exact flat_str _ | exact flat_nils) ?_))))) | refine flate_app ?_ ?_))))); done)) (by first | exact flatO_nil | (intro _; exact flatO_nil) | (intro _; first | exact flat_is _ | exact flat_ik _ _ | exact flat_bool _ | exact flat_str _ | exact flat_nils) | (intro _; refine flat_tup ?_; (repeat (first | exact flatl_nil | (refine flatl_cons (by first | (first | exact flat_is _ | exact flat_ik _ _ | exact flat_bool _ | exact flat_str _ | exact flat_nils) | (refine flat_agg ?_; (repeat (first | exact flatl_nil | (refine flatl_cons (by first | exact flat_is _ | exact flat_ik _ _ | exact flat_bool _ | exact flat_str _ | exact flat_nils) ?_))))) ?_))); done) | (intro _; refine flat_agg ?_; (repeat (first | exact flatl_nil | (refine flatl_cons (by first | exact flat_is _ | exact flat_ik _ _ | exact flat_bool _ | exact flat_str _ | exact flat_nils) ?_))); done) | ((repeat (first | exact flatO_nil | (refine flatO_cons (flatO_box ?_) ?_; (repeat (first | exact flatl_nil | (refine flatl_cons (by first | exact flat_is _ | exact flat_ik _ _ | exact flat_bool _ | exact flat_str _ | exact flat_nils) ?_)))) | (refine flatO_cons (flatO_arr ?_) ?_; (repeat (first | exact flate_nil | (refine flate_map (fun _ => ?_); (first | exact TWrite.flat _ | exact TFeedItem.flat _ | exact TIdx.flat _ | exact TVer.flat _ | (repeat (first | exact flatl_nil | (refine flatl_cons (by first | exact flat_is _ | exact flat_ik _ _ | exact flat_bool _ | exact flat_str _ | exact flat_nils) ?_))))) | (refine flate_rep ?_; (first | exact TWrite.flat _ | exact TFeedItem.flat _ | exact TIdx.flat _ | exact TVer.flat _ | (repeat (first | exact flatl_nil | (refine flatl_cons (by first | exact flat_is _ | exact flat_ik _ _ | exact flat_bool _ | exact flat_str _ | exact flat_nils) ?_))))) | (refine flate_cons ?_ ?_; (first | exact TWrite.flat _ | exact TFeedItem.flat _ | exact TIdx.flat _ | exact TVer.flat _ | (repeat (first | exact flatl_nil | (refine flatl_cons (by first | exact flat_is _ | exact flat_ik _ _ | exact flat_bool _ | exact flat_str _ | exact flat_nils) ?_))))) | refine flate_app ?_ ?_))))); done) | (intro _; (repeat (first | exact flatO_nil | (refine flatO_cons (flatO_box ?_) ?_; (repeat (first | exact flatl_nil | (refine flatl_cons (by first | exact flat_is _ | exact flat_ik _ _ | exact flat_bool _ | exact flat_str _ | exact flat_nils) ?_)))) | (refine flatO_cons (flatO_arr ?_) ?_; (repeat (first | exact flate_nil | (refine flate_map (fun _ => ?_); (first | exact TWrite.flat _ | exact TFeedItem.flat _ | exact TIdx.flat _ | exact TVer.flat _ | (repeat (first | exact flatl_nil | (refine flatl_cons (by first | exact flat_is _ | exact flat_ik _ _ | exact flat_bool _ | exact flat_str _ | exact flat_nils) ?_))))) | (refine flate_rep ?_; (first | exact TWrite.flat _ | exact TFeedItem.flat _ | exact TIdx.flat _ | exact TVer.flat _ | (repeat (first | exact flatl_nil | (refine flatl_cons (by first | exact flat_is _ | exact flat_ik _ _ | exact flat_bool _ | exact flat_str _ | exact flat_nils) ?_))))) | (refine flate_cons ?_ ?_; (first | exact TWrite.flat _ | exact TFeedItem.flat _ | exact TIdx.flat _ | exact TVer.flat _ | (repeat (first | exact flatl_nil | (refine flatl_cons (by first | exact flat_is _ | exact flat_ik _ _ | exact flat_bool _ | exact flat_str _ | exact flat_nils) ?_))))) | refine flate_app ?_ ?_))))); done)) (by first | exact flatO_nil | (intro _; exact flatO_nil) | (intro _; first | exact flat_is _ | exact flat_ik _ _ | exact flat_bool _ | exact flat_str _ | exact flat_nils) | (intro _; refine flat_tup ?_; (repeat (first | exact flatl_nil | (refine flatl_cons (by first | (first | exact flat_is _ | exact flat_ik _ _ | exact flat_bool _ | exact flat_str _ | exact flat_nils) | (refine flat_agg ?_; (repeat (first | exact flatl_nil | (refine flatl_cons (by first | exact flat_is _ | exact flat_ik _ _ | exact flat_bool _ | exact flat_str _ | exact flat_nils) ?_))))) ?_))); done) | (intro _; refine flat_agg ?_; (repeat (first | exact flatl_nil | (refine flatl_cons (by first | exact flat_is _ | exact flat_ik _ _ | exact flat_bool _ | exact flat_str _ | exact flat_nils) ?_))); done) | ((repeat (first | exact flatO_nil | (refine flatO_cons (flatO_box ?_) ?_; (repeat (first | exact flatl_nil | (refine flatl_cons (by first | exact flat_is _ | exact flat_ik _ _ | exact flat_bool _ | exact flat_str _ | exact flat_nils) ?_)))) | (refine flatO_cons (flatO_arr ?_) ?_; (repeat (first | exact flate_nil | (refine flate_map (fun _ => ?_); (first | exact TWrite.flat _ | exact TFeedItem.flat _ | exact TIdx.flat _ | exact TVer.flat _ | (repeat (first | exact flatl_nil | (refine flatl_cons (by first | exact flat_is _ | exact flat_ik _ _ | exact flat_bool _ | exact flat_str _ | exact flat_nils) ?_))))) | (refine flate_rep ?_; (first | exact TWrite.flat _ | exact TFeedItem.flat _ | exact TIdx.flat _ | exact TVer.flat _ | (repeat (first | exact flatl_nil | (refine flatl_cons (by first | exact flat_is _ | exact flat_ik _ _ | exact flat_bool _ | exact flat_str _ | exact flat_nils) ?_))))) | (refine flate_cons ?_ ?_; (first | exact TWrite.flat _ | exact TFeedItem.flat _ | exact TIdx.flat _ | exact TVer.flat _ | (repeat (first | exact flatl_nil | (refine flatl_cons (by first | exact flat_is _ | exact flat_ik _ _ | exact flat_bool _ | exact flat_str _ | exact flat_nils) ?_))))) | refine flate_app ?_ ?_))))); done) | (intro _; (repeat (first | exact flatO_nil | (refine flatO_cons (flatO_box ?_) ?_; (repeat (first | exact flatl_nil | (refine flatl_cons (by first | exact flat_is _ | exact flat_ik _ _ | exact flat_bool _ | exact flat_str _ | exact flat_nils) ?_)))) | (refine flatO_cons (flatO_arr ?_) ?_; (repeat (first | exact flate_nil | (refine flate_map (fun _ => ?_); (first | exact TWrite.flat _ | exact TFeedItem.flat _ | exact TIdx.flat _ | exact TVer.flat _ | (repeat (first | exact flatl_nil | (refine flatl_cons (by first | exact flat_is _ | exact flat_ik _ _ | exact flat_bool _ | exact flat_str _ | exact flat_nils) ?_))))) | (refine flate_rep ?_; (first | exact TWrite.flat _ | exact TFeedItem.flat _ | exact TIdx.flat _ | exact TVer.flat _ | (repeat (first | exact flatl_nil | (refine flatl_cons (by first | exact flat_is _ | exact flat_ik _ _ | exact flat_bool _ | exact flat_str _ | exact flat_nils) ?_))))) | (refine flate_cons ?_ ?_; (first | exact TWrite.flat _ | exact TFeedItem.flat _ | exact TIdx.flat _ | exact TVer.flat _ | (repeat (first | exact flatl_nil | (refine flatl_cons (by first | exact flat_is _ | exact flat_ik _ _ | exact flat_bool _ | exact flat_str _ | exact flat_nils) ?_))))) | refine flate_app ?_ ?_))))); done)) ?_
    intro x24 ok24
    refine sq_storeB0 2 rfl rfl rfl (ev_tmp rfl) (ev_tmp rfl) (as_agg _) rfl Try.sizeOf27 rfl ?_
    refine sq_plain rfl rfl rfl (w_assign rfl ev_cb) ?_
    refine sq_nil ?_
    refine awp_ret ?_
    exact retG [0, 0] (x24.1, x24.2) (trivial) rfl (by rfl) (resN rfl (by decide) (rv_cons (rv_cell (ys := _) 2 rfl rfl Try.isAgg27 Try.sizeOf27 rfl) (rv_cons (rv_tmp' rfl (by rfl)) rv_nil)))
theorem newMoveS_spec (a b : Str) (l : List TWrite) (ha : a.length ≤ 1048576) (hb : b.length ≤ 1048576) (hl : sizeL TWrite.size l ≤ 1048576) : FSpec Try.prog 14 [AV.str a, AV.str b, AV.list 3 (l.map TWrite.cs)] (AV.tup [AV.agg (newMoveS a b l).1.cs, AV.bool (newMoveS a b l).2]) :=
  fspec_of_gspec (newMoveS_own a b l ha hb hl) fun x _ => lt_tup (lc_cons (lt_agg (TMove.lc _ x)) (lc_cons lt_refl lc_nil))
end Go.Proofs.Ytdbmaekdejhobaa
