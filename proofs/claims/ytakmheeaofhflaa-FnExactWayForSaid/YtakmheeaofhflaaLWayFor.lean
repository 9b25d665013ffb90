/- FnExactWayFor: for all arguments the program's WayFor answers what the reference's answers, in memory of its own. No condition. -/
import Derived.Test.YtakmheeaofhflaaRouteW
import Derived.Test.YtakmheeaofhflaaTypesW
import Derived.Test.YtakmheeaofhflaaAvLaw
set_option linter.unusedVariables false
set_option linter.unusedSimpArgs false
set_option maxRecDepth 100000
namespace Go.Proofs.Ytakmheeaofhflaa
open Go Go.AV Go.M
open Go.ChangeShapes Go.WideShapes Go.ChangeAt Go.RowKit
section
attribute [local irreducible] OpW OpA OpS AWP FSpec ESpec GSpec OpE RetOk RetOkG RvDen Le Ev GuardIs SrcIs
theorem wayFor_len (a : TAtlas) (i : Int) (key : Str) : (wayFor a i key).1.length ≤ a.Maps.length + 1 := by
  unfold wayFor; split
  · exact Nat.zero_le _
  · unfold way; simp only [List.length_cons]; have := extW_len (a := a) (key := key) a.Maps.length (ownerOf (mapAt a i.toNat) key); omega
theorem fnExactWayFor_spec (a : TAtlas) (ha : a.ok) (i : Int) (hi : (Lit.int .i64 i).wf = true) (k : Str) (hk : k.length ≤ 9223372036854775807) : FSpec Try.prog 3 [AV.agg a.cs, AV.int i, AV.str k] (AV.bool true) := by
  refine spec_of_awp Try.func3 rfl Try.ntmps3 rfl ?_
  refine awp_seq ?_
  refine awp_region ?_
  refine sq_box rfl rfl rfl rfl (ev_tmp rfl) ?_
  intro b3
  refine sq_plain rfl rfl rfl (w_assign rfl ev_cb) ?_
  refine sq_nil ?_
  refine awp_seq ?_
  refine awp_seq ?_
  refine awp_region ?_
  refine sq_plain rfl rfl rfl (w_move rfl (ev_tmp rfl)) ?_
  refine sq_plain rfl rfl rfl (w_slen rfl Try.underlying9 (ev_tmp rfl)) ?_
  refine sq_plain rfl rfl rfl (w_gtr rfl (ev_tmp rfl) ev_ci) ?_
  refine sq_nil ?_
  refine awp_cond (ev_tmp rfl) ?_ ?_
  · intro h20
    have k20 := of_decide_eq_true h20; try simp only [List.length_map] at k20
    refine awp_seq ?_
    refine awp_region ?_
    refine sq_plain rfl rfl rfl (w_assign rfl ev_cb) ?_
    refine sq_nil ?_
    refine awp_ret ?_
    exact retR rfl (rv_tmp' rfl (by first | rfl | (exfalso; simp_all [wayFor_eq]; done) | (exfalso; simp_all [wayFor_eq]; omega)))
  · intro h20
    have k20 := of_decide_eq_false h20; try simp only [List.length_map] at k20
    refine awp_skip ?_
    refine awp_seq ?_
    refine awp_region ?_
    refine sq_plain rfl rfl rfl (w_assign rfl ev_ci) ?_
    refine sq_nil ?_
    refine awp_seq ?_
    refine awp_region ?_
    refine sq_plain rfl rfl rfl (w_loadA 0 rfl (ev_tmp rfl) rfl Try.isAgg25 Try.sizeOf25 rfl) ?_
    refine sq_plain rfl rfl rfl (w_move rfl (ev_tmp rfl)) ?_
    refine sq_plain rfl rfl rfl (w_call rfl Try.call15 rfl (szAtlas_spec _ _ (by assumption) (by first | omega | ((try simp only [List.length_map, List.length_take, List.length_cons, List.length_nil, chunks_len, szR] at *); omega) | (have hc2 := hc; simp only [Bool.and_eq_true, Bool.or_eq_true, Bool.or_eq_false_iff, Bool.and_eq_false_iff, Bool.not_eq_true', Bool.not_eq_false', decide_eq_true_eq, decide_eq_false_iff_not, beq_iff_eq, bne_iff_ne, List.length_map, List.length_take] at hc2; omega)) (by first | omega | ((try simp only [List.length_map, List.length_take, List.length_cons, List.length_nil, chunks_len, szR] at *); omega) | (have hc2 := hc; simp only [Bool.and_eq_true, Bool.or_eq_true, Bool.or_eq_false_iff, Bool.and_eq_false_iff, Bool.not_eq_true', Bool.not_eq_false', decide_eq_true_eq, decide_eq_false_iff_not, beq_iff_eq, bne_iff_ne, List.length_map, List.length_take] at hc2; omega))) (evl_cons (ev_tmp rfl) (evl_cons (ev_tmp rfl) evl_nil))) ?_
    refine sq_plain rfl rfl rfl (w_assign rfl (ev_tmp rfl)) ?_
    refine sq_nil ?_
    refine awp_seq ?_
    refine awp_seq ?_
    refine awp_region ?_
    refine sq_plain rfl rfl rfl (w_move rfl (ev_tmp rfl)) ?_
    refine sq_plain rfl rfl rfl (w_lss rfl (ev_tmp rfl) ev_ci) ?_
    refine sq_nil ?_
    refine awp_cond (ev_tmp rfl) ?_ ?_
    · intro h25
      have k25 := of_decide_eq_true h25; try simp only [List.length_map] at k25
      refine awp_seq ?_
      refine awp_region ?_
      refine sq_plain rfl rfl rfl (w_assign rfl ev_cb) ?_
      refine sq_nil ?_
      refine awp_ret ?_
      exact retR rfl (rv_tmp' rfl (by first | rfl | (exfalso; simp_all [wayFor_eq]; done) | (exfalso; simp_all [wayFor_eq]; omega)))
    · intro h25
      have k25 := of_decide_eq_false h25; try simp only [List.length_map] at k25
      have hs : a.size ≤ 1048576 := by simp only [szR] at k25; omega
      have hl := wayFor_len a i k
      have hs' := hs
      unfold TAtlas.size at hs'
      have hml : a.Maps.length ≤ 1048576 := Nat.le_trans sizeL_len (show sizeL TPlaces.size a.Maps ≤ 1048576 by omega)
      have hps := placesN_size a.Maps 1
      have hpl := countN_le TPlaces.markEN_le a.Maps 1
      have hX : 0 ≤ (1 : Int) ∧ a.markN 1 ≤ 4611686018427387904 := ⟨by omega, by unfold TAtlas.markN; omega⟩
      have hX0 : ¬ (a.markN 1 < 0) := by unfold TAtlas.markN; omega
      refine awp_skip ?_
      refine awp_seq ?_
      refine awp_region ?_
      refine sq_plain rfl rfl rfl (w_loadA 0 rfl (ev_tmp rfl) rfl Try.isAgg25 Try.sizeOf25 rfl) ?_
      refine sq_plain rfl rfl rfl (w_call rfl Try.call17 rfl (toAtlas_spec _ (by first | assumption | omega | (simp only [] at *; omega))) (evl_cons (ev_tmp rfl) evl_nil)) ?_
      refine sq_plain rfl rfl rfl (w_move rfl (ev_tmp rfl)) ?_
      refine sq_plain rfl rfl rfl (w_move rfl (ev_tmp rfl)) ?_
      refine sq_plain rfl rfl rfl (w_call rfl Try.call16 rfl (wayForS_spec _ _ _ (by first | assumption | omega) (by first | assumption | omega)) (evl_cons (ev_tmp rfl) (evl_cons (ev_tmp rfl) (evl_cons (ev_tmp rfl) evl_nil)))) ?_
      refine sq_plain rfl rfl rfl (w_move rfl (ev_tmp rfl)) ?_
      refine sq_plain rfl rfl rfl (w_extract rfl (ev_tmp rfl) rfl) ?_
      refine sq_plain rfl rfl rfl (w_extract rfl (ev_tmp rfl) rfl) ?_
      refine sq_plain rfl rfl rfl (w_assign rfl (ev_tmp rfl)) ?_
      refine sq_plain rfl rfl rfl (w_assign rfl (ev_tmp rfl)) ?_
      refine sq_nil ?_
      refine awp_seq ?_
      refine awp_region ?_
      refine sq_plain rfl rfl rfl (w_loadA 0 rfl (ev_tmp rfl) rfl Try.isAgg25 Try.sizeOf25 rfl) ?_
      refine sq_callGT [] 1 2 ([]) ([]) (fun zz => nin TPlaces.ow a.Maps zz.2.2) rfl rfl rfl rfl Try.call17 rfl rfl (show List.Perm ([]) (([]) ++ ([])) from List.Perm.refl _) (toAtlas_own a hs) (evl_cons (ev_tmp rfl) evl_nil) (fun a => perm_lin) ?_
      intro x35 ok35
      refine sq_alloc rfl rfl rfl rfl Try.zeroValue31 rfl ?_
      intro b10
      refine sq_storeB0 0 rfl rfl rfl (ev_tmp rfl) (ev_tmp rfl) (as_agg _) rfl Try.sizeOf31 rfl ?_
      refine sq_nil ?_
      refine awp_seq ?_
      refine awp_region ?_
      refine sq_plain rfl rfl rfl (w_loadA 0 rfl (ev_tmp rfl) rfl Try.isAgg31 Try.sizeOf31 rfl) ?_
      refine sq_plain rfl rfl rfl (w_move rfl (ev_tmp rfl)) ?_
      refine sq_plain rfl rfl rfl (w_move rfl (ev_tmp rfl)) ?_
      refine sq_callGB [] rfl rfl rfl rfl Try.call18 rfl (wayFor_own _ _ _ (by first | assumption | omega) (by first | assumption | omega)) rfl (evlb_cons (evb_lt (ev_tmp rfl) (lt_agg (lc_cons (nin_lend TPlaces.lcM (by first | exact ok35 | exact ok35.trans (marksN_len _ _).symm) 1 rfl (fun o ho => List.mem_of_mem_drop (i := 4) (show o ∈ nin TPlaces.ow a.Maps x35.2.2 from by first | exact ho | exact List.mem_append_left _ ho | exact List.mem_append_right _ ho | exact List.mem_append_right _ (List.mem_append_left _ ho) | exact List.mem_append_right _ (List.mem_append_right _ ho)))) (lc_cons (lt_arr (List.mem_of_getElem? (i := 2) rfl) le_refl_e) lc_nil)))) (evlb_cons (evb (ev_tmp rfl)) (evlb_cons (evb (ev_tmp rfl)) evlb_nil))) (by first | exact flatO_nil | (intro _; exact flatO_nil) | (intro _; first | exact flat_is _ | exact flat_ik _ _ | exact flat_bool _ | exact flat_str _ | exact flat_nils) | (intro _; refine flat_tup ?_; (repeat (first | exact flatl_nil | (refine flatl_cons (by first | (first | exact flat_is _ | exact flat_ik _ _ | exact flat_bool _ | exact flat_str _ | exact flat_nils) | (refine flat_agg ?_; (repeat (first | exact flatl_nil | (refine flatl_cons (by first | exact flat_is _ | exact flat_ik _ _ | exact flat_bool _ | exact flat_str _ | exact flat_nils) ?_))))) ?_))); done) | (intro _; refine flat_agg ?_; (repeat (first | exact flatl_nil | (refine flatl_cons (by first | exact flat_is _ | exact flat_ik _ _ | exact flat_bool _ | exact flat_str _ | exact flat_nils) ?_))); done) | ((repeat (first | exact flatO_nil | (refine flatO_cons (flatO_box ?_) ?_; (repeat (first | exact flatl_nil | (refine flatl_cons (by first | exact flat_is _ | exact flat_ik _ _ | exact flat_bool _ | exact flat_str _ | exact flat_nils) ?_)))) | (refine flatO_cons (flatO_arr ?_) ?_; (repeat (first | exact flate_nil | (refine flate_map (fun _ => ?_); (first | exact TWrite.flat _ | exact TFeedItem.flat _ | exact TIdx.flat _ | exact TVer.flat _ | (repeat (first | exact flatl_nil | (refine flatl_cons (by first | exact flat_is _ | exact flat_ik _ _ | exact flat_bool _ | exact flat_str _ | exact flat_nils) ?_))))) | (refine flate_rep ?_; (first | exact TWrite.flat _ | exact TFeedItem.flat _ | exact TIdx.flat _ | exact TVer.flat _ | (repeat (first | exact flatl_nil | (refine flatl_cons (by first | exact flat_is _ | exact flat_ik _ _ | exact flat_bool _ | exact flat_str _ | exact flat_nils) ?_))))) | (refine flate_cons ?_ ?_; (first | exact TWrite.flat _ | exact TFeedItem.flat _ | exact TIdx.flat _ | exact TVer.flat _ | (repeat (first | exact flatl_nil | (refine flatl_cons (by first | exact flat_is _ | exact flat_ik _ _ | exact flat_bool _ | exact flat_str _ | exact flat_nils) ?_))))) | refine flate_app ?_ ?_))))); done) | (intro _; (repeat (first | exact flatO_nil | (refine flatO_cons (flatO_box ?_) ?_; (repeat (first | exact flatl_nil | (refine flatl_cons (by first | exact flat_is _ | exact flat_ik _ _ | exact flat_bool _ | exact flat_str _ | exact flat_nils) ?_)))) | (refine flatO_cons (flatO_arr ?_) ?_; (repeat (first | exact flate_nil | (refine flate_map (fun _ => ?_); (first | exact TWrite.flat _ | exact TFeedItem.flat _ | exact TIdx.flat _ | exact TVer.flat _ | (repeat (first | exact flatl_nil | (refine flatl_cons (by first | exact flat_is _ | exact flat_ik _ _ | exact flat_bool _ | exact flat_str _ | exact flat_nils) ?_))))) | (refine flate_rep ?_; (first | exact TWrite.flat _ | exact TFeedItem.flat _ | exact TIdx.flat _ | exact TVer.flat _ | (repeat (first | exact flatl_nil | (refine flatl_cons (by first | exact flat_is _ | exact flat_ik _ _ | exact flat_bool _ | exact flat_str _ | exact flat_nils) ?_))))) | (refine flate_cons ?_ ?_; (first | exact TWrite.flat _ | exact TFeedItem.flat _ | exact TIdx.flat _ | exact TVer.flat _ | (repeat (first | exact flatl_nil | (refine flatl_cons (by first | exact flat_is _ | exact flat_ik _ _ | exact flat_bool _ | exact flat_str _ | exact flat_nils) ?_))))) | refine flate_app ?_ ?_))))); done)) (by first | exact flatO_nil | (intro _; exact flatO_nil) | (intro _; first | exact flat_is _ | exact flat_ik _ _ | exact flat_bool _ | exact flat_str _ | exact flat_nils) | (intro _; refine flat_tup ?_; (repeat (first | exact flatl_nil | (refine flatl_cons (by first | (first | exact flat_is _ | exact flat_ik _ _ | exact flat_bool _ | exact flat_str _ | exact flat_nils) | (refine flat_agg ?_; (repeat (first | exact flatl_nil | (refine flatl_cons (by first | exact flat_is _ | exact flat_ik _ _ | exact flat_bool _ | exact flat_str _ | exact flat_nils) ?_))))) ?_))); done) | (intro _; refine flat_agg ?_; (repeat (first | exact flatl_nil | (refine flatl_cons (by first | exact flat_is _ | exact flat_ik _ _ | exact flat_bool _ | exact flat_str _ | exact flat_nils) ?_))); done) | ((repeat (first | exact flatO_nil | (refine flatO_cons (flatO_box ?_) ?_; (repeat (first | exact flatl_nil | (refine flatl_cons (by first | exact flat_is _ | exact flat_ik _ _ | exact flat_bool _ | exact flat_str _ | exact flat_nils) ?_)))) | (refine flatO_cons (flatO_arr ?_) ?_; (repeat (first | exact flate_nil | (refine flate_map (fun _ => ?_); (first | exact TWrite.flat _ | exact TFeedItem.flat _ | exact TIdx.flat _ | exact TVer.flat _ | (repeat (first | exact flatl_nil | (refine flatl_cons (by first | exact flat_is _ | exact flat_ik _ _ | exact flat_bool _ | exact flat_str _ | exact flat_nils) ?_))))) | (refine flate_rep ?_; (first | exact TWrite.flat _ | exact TFeedItem.flat _ | exact TIdx.flat _ | exact TVer.flat _ | (repeat (first | exact flatl_nil | (refine flatl_cons (by first | exact flat_is _ | exact flat_ik _ _ | exact flat_bool _ | exact flat_str _ | exact flat_nils) ?_))))) | (refine flate_cons ?_ ?_; (first | exact TWrite.flat _ | exact TFeedItem.flat _ | exact TIdx.flat _ | exact TVer.flat _ | (repeat (first | exact flatl_nil | (refine flatl_cons (by first | exact flat_is _ | exact flat_ik _ _ | exact flat_bool _ | exact flat_str _ | exact flat_nils) ?_))))) | refine flate_app ?_ ?_))))); done) | (intro _; (repeat (first | exact flatO_nil | (refine flatO_cons (flatO_box ?_) ?_; (repeat (first | exact flatl_nil | (refine flatl_cons (by first | exact flat_is _ | exact flat_ik _ _ | exact flat_bool _ | exact flat_str _ | exact flat_nils) ?_)))) | (refine flatO_cons (flatO_arr ?_) ?_; (repeat (first | exact flate_nil | (refine flate_map (fun _ => ?_); (first | exact TWrite.flat _ | exact TFeedItem.flat _ | exact TIdx.flat _ | exact TVer.flat _ | (repeat (first | exact flatl_nil | (refine flatl_cons (by first | exact flat_is _ | exact flat_ik _ _ | exact flat_bool _ | exact flat_str _ | exact flat_nils) ?_))))) | (refine flate_rep ?_; (first | exact TWrite.flat _ | exact TFeedItem.flat _ | exact TIdx.flat _ | exact TVer.flat _ | (repeat (first | exact flatl_nil | (refine flatl_cons (by first | exact flat_is _ | exact flat_ik _ _ | exact flat_bool _ | exact flat_str _ | exact flat_nils) ?_))))) | (refine flate_cons ?_ ?_; (first | exact TWrite.flat _ | exact TFeedItem.flat _ | exact TIdx.flat _ | exact TVer.flat _ | (repeat (first | exact flatl_nil | (refine flatl_cons (by first | exact flat_is _ | exact flat_ik _ _ | exact flat_bool _ | exact flat_str _ | exact flat_nils) ?_))))) | refine flate_app ?_ ?_))))); done)) (by first | exact flatO_nil | (intro _; exact flatO_nil) | (intro _; first | exact flat_is _ | exact flat_ik _ _ | exact flat_bool _ | exact flat_str _ | exact flat_nils) | (intro _; refine flat_tup ?_; (repeat (first | exact flatl_nil | (refine flatl_cons (by first | (first | exact flat_is _ | exact flat_ik _ _ | exact flat_bool _ | exact flat_str _ | exact flat_nils) | (refine flat_agg ?_; (repeat (first | exact flatl_nil | (refine flatl_cons (by first | exact flat_is _ | exact flat_ik _ _ | exact flat_bool _ | exact flat_str _ | exact flat_nils) ?_))))) ?_))); done) | (intro _; refine flat_agg ?_; (repeat (first | exact flatl_nil | (refine flatl_cons (by first | exact flat_is _ | exact flat_ik _ _ | exact flat_bool _ | exact flat_str _ | exact flat_nils) ?_))); done) | ((repeat (first | exact flatO_nil | (refine flatO_cons (flatO_box ?_) ?_; (repeat (first | exact flatl_nil | (refine flatl_cons (by first | exact flat_is _ | exact flat_ik _ _ | exact flat_bool _ | exact flat_str _ | exact flat_nils) ?_)))) | (refine flatO_cons (flatO_arr ?_) ?_; (repeat (first | exact flate_nil | (refine flate_map (fun _ => ?_); (first | exact TWrite.flat _ | exact TFeedItem.flat _ | exact TIdx.flat _ | exact TVer.flat _ | (repeat (first | exact flatl_nil | (refine flatl_cons (by first | exact flat_is _ | exact flat_ik _ _ | exact flat_bool _ | exact flat_str _ | exact flat_nils) ?_))))) | (refine flate_rep ?_; (first | exact TWrite.flat _ | exact TFeedItem.flat _ | exact TIdx.flat _ | exact TVer.flat _ | (repeat (first | exact flatl_nil | (refine flatl_cons (by first | exact flat_is _ | exact flat_ik _ _ | exact flat_bool _ | exact flat_str _ | exact flat_nils) ?_))))) | (refine flate_cons ?_ ?_; (first | exact TWrite.flat _ | exact TFeedItem.flat _ | exact TIdx.flat _ | exact TVer.flat _ | (repeat (first | exact flatl_nil | (refine flatl_cons (by first | exact flat_is _ | exact flat_ik _ _ | exact flat_bool _ | exact flat_str _ | exact flat_nils) ?_))))) | refine flate_app ?_ ?_))))); done) | (intro _; (repeat (first | exact flatO_nil | (refine flatO_cons (flatO_box ?_) ?_; (repeat (first | exact flatl_nil | (refine flatl_cons (by first | exact flat_is _ | exact flat_ik _ _ | exact flat_bool _ | exact flat_str _ | exact flat_nils) ?_)))) | (refine flatO_cons (flatO_arr ?_) ?_; (repeat (first | exact flate_nil | (refine flate_map (fun _ => ?_); (first | exact TWrite.flat _ | exact TFeedItem.flat _ | exact TIdx.flat _ | exact TVer.flat _ | (repeat (first | exact flatl_nil | (refine flatl_cons (by first | exact flat_is _ | exact flat_ik _ _ | exact flat_bool _ | exact flat_str _ | exact flat_nils) ?_))))) | (refine flate_rep ?_; (first | exact TWrite.flat _ | exact TFeedItem.flat _ | exact TIdx.flat _ | exact TVer.flat _ | (repeat (first | exact flatl_nil | (refine flatl_cons (by first | exact flat_is _ | exact flat_ik _ _ | exact flat_bool _ | exact flat_str _ | exact flat_nils) ?_))))) | (refine flate_cons ?_ ?_; (first | exact TWrite.flat _ | exact TFeedItem.flat _ | exact TIdx.flat _ | exact TVer.flat _ | (repeat (first | exact flatl_nil | (refine flatl_cons (by first | exact flat_is _ | exact flat_ik _ _ | exact flat_bool _ | exact flat_str _ | exact flat_nils) ?_))))) | refine flate_app ?_ ?_))))); done)) ?_
      intro x40 ok40
      refine sq_plain rfl rfl rfl (w_move rfl (ev_tmp rfl)) ?_
      refine sq_plain rfl rfl rfl (w_extract rfl (ev_tmp rfl) rfl) ?_
      refine sq_plain rfl rfl rfl (w_extract rfl (ev_tmp rfl) rfl) ?_
      refine sq_plain rfl rfl rfl (w_assign rfl (ev_tmp rfl)) ?_
      refine sq_plain rfl rfl rfl (w_assign rfl (ev_tmp rfl)) ?_
      refine sq_nil ?_
      refine awp_seq ?_
      refine awp_seq ?_
      refine awp_region ?_
      refine sq_plain rfl rfl rfl (w_move rfl (ev_tmp rfl)) ?_
      refine sq_plain rfl rfl rfl (w_move rfl (ev_tmp rfl)) ?_
      refine sq_plain rfl rfl rfl (w_callB rfl Try.call19 rfl (eqIntS_spec _ _) (flat_bool _) (evlb_cons (evb_arr 0 (ev_tmp rfl) rfl) (evlb_cons (evb (ev_tmp rfl)) evlb_nil))) ?_
      refine sq_plain rfl rfl rfl (w_not rfl (ev_tmp rfl)) ?_
      refine sq_plain rfl rfl rfl (w_move rfl (ev_tmp rfl)) ?_
      refine sq_grd rfl rfl (guard_f rfl rfl rfl) (fun hc => w_move rfl (ev_tmp rfl)) ?_
      refine sq_grd rfl rfl (guard_f rfl rfl rfl) (fun hc => w_move rfl (ev_tmp rfl)) ?_
      refine sq_grd rfl rfl (guard_f rfl rfl rfl) (fun hc => w_bneq rfl Try.underlying4 (ev_whn rfl hc) (ev_whn rfl hc)) ?_
      refine sq_plain rfl rfl rfl (w_or rfl (ev_tmp rfl) (evif_w rfl)) ?_
      refine sq_nil ?_
      refine awp_cond (ev_tmp rfl) ?_ ?_
      · intro h51
        refine awp_seq ?_
        refine awp_region ?_
        refine sq_plain rfl rfl rfl (w_assign rfl ev_cb) ?_
        refine sq_nil ?_
        refine awp_ret ?_
        exact retR rfl (rv_tmp' rfl (by first | rfl | (exfalso; simp_all [wayFor_eq]; done) | (exfalso; simp_all [wayFor_eq]; omega)))
      · intro h51
        refine awp_skip ?_
        refine awp_seq ?_
        refine awp_seq ?_
        refine awp_region_any (by kernel_rfl) (by kernel_rfl) rfl ?_
        refine ch_plain rfl rfl (w_loadA 1 rfl (ev_tmp rfl) rfl Try.isAgg31 Try.sizeOf31 rfl) ?_
        refine ch_plain rfl rfl (w_loadA 4 rfl (ev_tmp rfl) rfl Try.isAgg25 Try.sizeOf25 rfl) ?_
        refine ch_plain rfl rfl (w_call rfl Try.call17 rfl (toAtlas_spec _ (by first | assumption | omega | (simp only [] at *; omega))) (evl_cons (ev_tmp rfl) evl_nil)) ?_
        refine ch_plain rfl rfl (w_callB rfl Try.call20 rfl (eqAtlas_spec _ _) (flat_bool _) (evlb_cons (evb_lt (ev_tmp rfl) (lt_agg (lc_cons (nin_lend TPlaces.lcM (by first | exact ok35 | exact ok35.trans (marksN_len _ _).symm) 2 rfl (fun o ho => List.mem_of_mem_drop (i := 5) (show o ∈ nin TPlaces.ow a.Maps x35.2.2 from by first | exact ho | exact List.mem_append_left _ ho | exact List.mem_append_right _ ho | exact List.mem_append_right _ (List.mem_append_left _ ho) | exact List.mem_append_right _ (List.mem_append_right _ ho)))) (lc_cons (lt_arr (List.mem_of_getElem? (i := 3) rfl) le_refl_e) lc_nil)))) (evlb_cons (evb (ev_tmp rfl)) evlb_nil))) ?_
        refine ch_plain rfl rfl (w_not rfl (ev_tmp rfl)) ?_
        refine ch_nil ?_
        refine awp_cond (ev_tmp rfl) ?_ ?_
        · intro h56
          refine awp_seq ?_
          refine awp_region ?_
          refine sq_plain rfl rfl rfl (w_assign rfl ev_cb) ?_
          refine sq_nil ?_
          refine awp_ret ?_
          exact retR rfl (rv_tmp' rfl (by first | rfl | (exfalso; simp_all [wayFor_eq]; done) | (exfalso; simp_all [wayFor_eq]; omega)))
        · intro h56
          refine awp_skip ?_
          refine awp_seq ?_
          refine awp_region ?_
          refine sq_plain rfl rfl rfl (w_assign rfl ev_ci) ?_
          refine sq_nil ?_
          refine awp_seq ?_
          refine awp_region ?_
          refine sq_plain rfl rfl rfl (w_loadA 1 rfl (ev_tmp rfl) rfl Try.isAgg31 Try.sizeOf31 rfl) ?_
          refine sq_plain rfl rfl rfl (w_move rfl (ev_tmp rfl)) ?_
          refine sq_callGT [2, 2] 3 2 (nin TPlaces.ow a.Maps x35.2.2) ([]) (fun zz => nin TPlaces.ow (marksN TPlaces.markE TPlaces.markEN a.Maps 1) x35.2.2) rfl rfl rfl rfl Try.call21 rfl rfl (show List.Perm (nin TPlaces.ow a.Maps x35.2.2) ((nin TPlaces.ow a.Maps x35.2.2) ++ ([])) from perm_nil) (markAtlas_spec a x35 1 ok35 hX) (evl_cons (ev_tmp rfl) (evl_cons (ev_tmp rfl) evl_nil)) (fun a => perm_lin) ?_
          intro x59 ok59
          refine sq_plain rfl rfl rfl (w_assign rfl (ev_tmp rfl)) ?_
          refine sq_nil ?_
          refine awp_seq ?_
          refine awp_seq ?_
          refine awp_region ?_
          refine sq_plain rfl rfl rfl (w_move rfl (ev_tmp rfl)) ?_
          refine sq_plain rfl rfl rfl (w_lss rfl (ev_tmp rfl) ev_ci) ?_
          refine sq_plain rfl rfl rfl (w_move rfl (ev_tmp rfl)) ?_
          refine sq_grd rfl rfl (guard_f rfl rfl rfl) (fun hc => w_move rfl (ev_tmp rfl)) ?_
          refine sq_grd rfl rfl (guard_f rfl rfl rfl) (fun hc => w_move rfl (ev_tmp rfl)) ?_
          refine sq_grd rfl rfl (guard_f rfl rfl rfl) (fun hc => w_callB rfl Try.call19 rfl (eqIntS_spec _ _) (flat_bool _) (evlb_cons (evb_arr 2 (ev_whn rfl hc) rfl) (evlb_cons (evb (ev_whn rfl hc)) evlb_nil))) ?_
          refine sq_grd rfl rfl (guard_f rfl rfl rfl) (fun hc => w_not rfl (ev_whn rfl hc)) ?_
          refine sq_plain rfl rfl rfl (w_or rfl (ev_tmp rfl) (evif_w rfl)) ?_
          refine sq_plain rfl rfl rfl (w_move rfl (ev_tmp rfl)) ?_
          refine sq_grd rfl rfl (guard_f rfl rfl rfl) (fun hc => w_move rfl (ev_tmp rfl)) ?_
          refine sq_grd rfl rfl (guard_f rfl rfl rfl) (fun hc => w_move rfl (ev_tmp rfl)) ?_
          refine sq_grd rfl rfl (guard_f rfl rfl rfl) (fun hc => w_bneq rfl Try.underlying4 (ev_whn rfl hc) (ev_whn rfl hc)) ?_
          refine sq_plain rfl rfl rfl (w_or rfl (ev_tmp rfl) (evif_w rfl)) ?_
          refine sq_nil ?_
          refine awp_cond (ev_tmp rfl) ?_ ?_
          · intro h72
            refine awp_seq ?_
            refine awp_region ?_
            refine sq_plain rfl rfl rfl (w_assign rfl ev_cb) ?_
            refine sq_nil ?_
            refine awp_ret ?_
            exact retR rfl (rv_tmp' rfl (by first | rfl | (exfalso; simp_all [wayFor_eq]; done) | (exfalso; simp_all [wayFor_eq]; omega)))
          · intro h72
            refine awp_skip ?_
            refine awp_seq ?_
            refine awp_region ?_
            refine sq_plain rfl rfl rfl (w_assign rfl ev_ci) ?_
            refine sq_nil ?_
            refine awp_seq ?_
            refine awp_region ?_
            refine sq_plain rfl rfl rfl (w_move rfl (ev_tmp rfl)) ?_
            refine sq_plain rfl rfl rfl (w_move rfl (ev_tmp rfl)) ?_
            refine sq_callG [2] rfl rfl rfl rfl Try.call22 rfl (markIntS_spec _ _ _ (by first | assumption | first | omega | (refine ⟨by omega, ?_⟩; simp only [marks_len] at *; omega))) (evl_cons (ev_tmp rfl) (evl_cons (ev_tmp rfl) evl_nil)) rfl ?_
            intro x75 ok75
            refine sq_plain rfl rfl rfl (w_assign rfl (ev_tmp rfl)) ?_
            refine sq_nil ?_
            refine awp_seq ?_
            refine awp_region ?_
            refine sq_plain rfl rfl rfl (w_assign rfl ev_ci) ?_
            refine sq_nil ?_
            refine awp_seq ?_
            refine awp_region ?_
            refine sq_plain rfl rfl rfl (w_move rfl (ev_tmp rfl)) ?_
            refine sq_plain rfl rfl rfl (w_move rfl (ev_tmp rfl)) ?_
            refine sq_plain rfl rfl rfl (w_callB rfl Try.call23 rfl (heldIntS_spec (wayFor a i k).1.length 1 (by omega)) (flat_ik _ _) (evlb_cons (evb_arr 0 (ev_tmp rfl) rfl) (evlb_cons (evb (ev_tmp rfl)) evlb_nil))) ?_
            refine sq_plain rfl rfl rfl (w_assign rfl (ev_tmp rfl)) ?_
            refine sq_nil ?_
            refine awp_seq ?_
            refine awp_seq ?_
            refine awp_region ?_
            refine sq_plain rfl rfl rfl (w_move rfl (ev_tmp rfl)) ?_
            refine sq_plain rfl rfl rfl (w_lss rfl (ev_tmp rfl) ev_ci) ?_
            refine sq_nil ?_
            refine awp_cond (ev_tmp rfl) ?_ ?_
            · intro h80
              have k80 := of_decide_eq_true h80; try simp only [List.length_map] at k80
              refine awp_seq ?_
              refine awp_region ?_
              refine sq_plain rfl rfl rfl (w_assign rfl ev_cb) ?_
              refine sq_nil ?_
              refine awp_ret ?_
              exact retR rfl (rv_tmp' rfl (by first | rfl | (exfalso; simp_all [wayFor_eq]; done) | (exfalso; simp_all [wayFor_eq]; omega)))
            · intro h80
              have k80 := of_decide_eq_false h80; try simp only [List.length_map] at k80
              refine awp_skip ?_
              refine awp_seq ?_
              refine awp_seq ?_
              refine awp_region ?_
              refine sq_plain rfl rfl rfl (w_move rfl (ev_tmp rfl)) ?_
              refine sq_plain rfl rfl rfl (w_move rfl (ev_tmp rfl)) ?_
              refine sq_plain rfl rfl rfl (w_neq rfl (ev_tmp rfl) (ev_tmp rfl)) ?_
              refine sq_nil ?_
              refine awp_cond (ev_tmp rfl) ?_ ?_
              · intro h83
                have k83 := ne_of_bne h83; try simp only [List.length_map] at k83
                refine awp_seq ?_
                refine awp_region ?_
                refine sq_plain rfl rfl rfl (w_assign rfl ev_cb) ?_
                refine sq_nil ?_
                refine awp_ret ?_
                exact retR rfl (rv_tmp' rfl (by first | rfl | (exfalso; simp_all [wayFor_eq]; done) | (exfalso; simp_all [wayFor_eq]; omega)))
              · intro h83
                have k83 := eq_of_bne_false h83; try simp only [List.length_map] at k83
                refine awp_skip ?_
                refine awp_seq ?_
                refine awp_region ?_
                refine sq_plain rfl rfl rfl (w_loadA 4 rfl (ev_tmp rfl) rfl Try.isAgg25 Try.sizeOf25 rfl) ?_
                refine sq_plain rfl rfl rfl (w_call rfl Try.call17 rfl (toAtlas_spec _ (by first | assumption | omega | (simp only [] at *; omega))) (evl_cons (ev_tmp rfl) evl_nil)) ?_
                refine sq_plain rfl rfl rfl (w_move rfl (ev_tmp rfl)) ?_
                refine sq_plain rfl rfl rfl (w_move rfl (ev_tmp rfl)) ?_
                refine sq_callG [] rfl rfl rfl rfl Try.call18 rfl (wayFor_own _ _ _ (by first | assumption | omega) (by first | assumption | omega)) (evl_cons (ev_tmp rfl) (evl_cons (ev_tmp rfl) (evl_cons (ev_tmp rfl) evl_nil))) rfl ?_
                intro x89 ok89
                refine sq_plain rfl rfl rfl (w_move rfl (ev_tmp rfl)) ?_
                refine sq_plain rfl rfl rfl (w_extract rfl (ev_tmp rfl) rfl) ?_
                refine sq_plain rfl rfl rfl (w_extract rfl (ev_tmp rfl) rfl) ?_
                refine sq_plain rfl rfl rfl (w_assign rfl (ev_tmp rfl)) ?_
                refine sq_plain rfl rfl rfl (w_assign rfl (ev_tmp rfl)) ?_
                refine sq_nil ?_
                refine awp_seq ?_
                refine awp_seq ?_
                refine awp_region ?_
                refine sq_plain rfl rfl rfl (w_move rfl (ev_tmp rfl)) ?_
                refine sq_plain rfl rfl rfl (w_move rfl (ev_tmp rfl)) ?_
                refine sq_plain rfl rfl rfl (w_callB rfl Try.call19 rfl (eqIntS_spec _ _) (flat_bool _) (evlb_cons (evb_arr 0 (ev_tmp rfl) rfl) (evlb_cons (evb (ev_tmp rfl)) evlb_nil))) ?_
                refine sq_plain rfl rfl rfl (w_not rfl (ev_tmp rfl)) ?_
                refine sq_plain rfl rfl rfl (w_move rfl (ev_tmp rfl)) ?_
                refine sq_grd rfl rfl (guard_f rfl rfl rfl) (fun hc => w_move rfl (ev_tmp rfl)) ?_
                refine sq_grd rfl rfl (guard_f rfl rfl rfl) (fun hc => w_move rfl (ev_tmp rfl)) ?_
                refine sq_grd rfl rfl (guard_f rfl rfl rfl) (fun hc => w_bneq rfl Try.underlying4 (ev_whn rfl hc) (ev_whn rfl hc)) ?_
                refine sq_plain rfl rfl rfl (w_or rfl (ev_tmp rfl) (evif_w rfl)) ?_
                refine sq_nil ?_
                refine awp_cond (ev_tmp rfl) ?_ ?_
                · intro h100
                  refine awp_seq ?_
                  refine awp_region ?_
                  refine sq_plain rfl rfl rfl (w_assign rfl ev_cb) ?_
                  refine sq_nil ?_
                  refine awp_ret ?_
                  exact retR rfl (rv_tmp' rfl (by first | rfl | (exfalso; simp_all [wayFor_eq]; done) | (exfalso; simp_all [wayFor_eq]; omega)))
                · intro h100
                  refine awp_skip ?_
                  refine awp_seq ?_
                  refine awp_region ?_
                  refine sq_plain rfl rfl rfl (w_assign rfl ev_ci) ?_
                  refine sq_nil ?_
                  refine awp_seq ?_
                  refine awp_region ?_
                  refine sq_plain rfl rfl rfl (w_move rfl (ev_tmp rfl)) ?_
                  refine sq_plain rfl rfl rfl (w_move rfl (ev_tmp rfl)) ?_
                  refine sq_plain rfl rfl rfl (w_callB rfl Try.call23 rfl (heldIntS_spec (wayFor a i k).1.length 1 (by omega)) (flat_ik _ _) (evlb_cons (evb_arr 1 (ev_tmp rfl) rfl) (evlb_cons (evb (ev_tmp rfl)) evlb_nil))) ?_
                  refine sq_plain rfl rfl rfl (w_assign rfl (ev_tmp rfl)) ?_
                  refine sq_nil ?_
                  refine awp_seq ?_
                  refine awp_seq ?_
                  refine awp_region ?_
                  refine sq_plain rfl rfl rfl (w_move rfl (ev_tmp rfl)) ?_
                  refine sq_plain rfl rfl rfl (w_lss rfl (ev_tmp rfl) ev_ci) ?_
                  refine sq_nil ?_
                  refine awp_cond (ev_tmp rfl) ?_ ?_
                  · intro h105
                    have k105 := of_decide_eq_true h105; try simp only [List.length_map] at k105
                    refine awp_seq ?_
                    refine awp_region ?_
                    refine sq_plain rfl rfl rfl (w_assign rfl ev_cb) ?_
                    refine sq_nil ?_
                    refine awp_ret ?_
                    exact retR rfl (rv_tmp' rfl (by first | rfl | (exfalso; simp_all [wayFor_eq]; done) | (exfalso; simp_all [wayFor_eq]; omega)))
                  · intro h105
                    have k105 := of_decide_eq_false h105; try simp only [List.length_map] at k105
                    refine awp_skip ?_
                    refine awp_seq ?_
                    refine awp_seq ?_
                    refine awp_region ?_
                    refine sq_plain rfl rfl rfl (w_move rfl (ev_tmp rfl)) ?_
                    refine sq_plain rfl rfl rfl (w_move rfl (ev_tmp rfl)) ?_
                    refine sq_plain rfl rfl rfl (w_neq rfl (ev_tmp rfl) (ev_tmp rfl)) ?_
                    refine sq_nil ?_
                    refine awp_cond (ev_tmp rfl) ?_ ?_
                    · intro h108
                      have k108 := ne_of_bne h108; try simp only [List.length_map] at k108
                      refine awp_seq ?_
                      refine awp_region ?_
                      refine sq_plain rfl rfl rfl (w_assign rfl ev_cb) ?_
                      refine sq_nil ?_
                      refine awp_ret ?_
                      exact retR rfl (rv_tmp' rfl (by first | rfl | (exfalso; simp_all [wayFor_eq]; done) | (exfalso; simp_all [wayFor_eq]; omega)))
                    · intro h108
                      have k108 := eq_of_bne_false h108; try simp only [List.length_map] at k108
                      refine awp_skip ?_
                      refine awp_seq ?_
                      refine awp_region ?_
                      refine sq_plain rfl rfl rfl (w_assign rfl ev_cb) ?_
                      refine sq_nil ?_
                      refine awp_ret ?_
                      exact retR rfl (rv_tmp' rfl (by first | rfl | (exfalso; simp_all [wayFor_eq]; done) | (exfalso; simp_all [wayFor_eq]; omega)))
end
theorem opens_Int : Opens Try.prog 3 Int (fun n => [AV.int n]) (fun _ => True) := opens_map id (opens_int Try.underlying3) (fun _ => rfl) (fun _ _ => trivial)
theorem opens_Str : Opens Try.prog 9 Str (fun s => [AV.str s]) (fun s => s.length ≤ 9223372036854775807) := opens_str Try.underlying9
theorem opens_LStr : Opens Try.prog 78 (List Str) (fun l => [AV.list 1 (l.map fun x => [AV.str x])]) (fun l => (∀ x ∈ l, x.length ≤ 9223372036854775807)) := opens_map id (opens_slice (sz := 1) Try.underlying78 (by kernel_rfl) opens_Str (fun _ => rfl)) (fun _ => rfl) (fun _ h => h)
theorem opens_LInt : Opens Try.prog 23 (List Int) (fun l => [AV.list 1 (l.map fun x => [AV.int x])]) (fun l => True) := opens_map id (opens_slice (sz := 1) Try.underlying23 (by kernel_rfl) opens_Int (fun _ => rfl)) (fun _ => rfl) (fun _ _ => trivial)
theorem opens_TPlaces : Opens Try.prog 80 TPlaces TPlaces.cs (fun c => c.ok) := opens_map (fun p => ⟨p.1, p.2.1, p.2.2.1⟩) (opens_struct Try.underlying80 (by kernel_rfl) (opensF_cons (m := 1) opens_Int rfl (by kernel_rfl) (opensF_cons (m := 1) opens_LStr rfl (by kernel_rfl) (opensF_cons (m := 1) opens_LInt rfl (by kernel_rfl) opensF_nil)))) (fun _ => rfl) (fun _ h => by exact h.2.1)
theorem opens_LTPlaces : Opens Try.prog 22 (List TPlaces) (fun l => [AV.list 3 (l.map TPlaces.cs)]) (fun l => (∀ x ∈ l, x.ok)) := opens_map id (opens_slice (sz := 3) Try.underlying22 (by kernel_rfl) opens_TPlaces (fun _ => rfl)) (fun _ => rfl) (fun _ h => h)
theorem opens_TAtlas : Opens Try.prog 25 TAtlas TAtlas.cs (fun c => c.ok) := opens_map (fun p => ⟨p.1, p.2.1⟩) (opens_struct Try.underlying25 (by kernel_rfl) (opensF_cons (m := 1) opens_LTPlaces rfl (by kernel_rfl) (opensF_cons (m := 1) opens_LInt rfl (by kernel_rfl) opensF_nil))) (fun _ => rfl) (fun _ h => by exact h.1)
set_option maxRecDepth 100000 in
theorem fnExactWayFor_lifted (os : Os) (started : os.Started) (H : Type) (enc : TypeId × Value → H) :
    ReturnsInHanded {} Try.checked os 3 .any (Rows.fnExactWayForSpec.pre6 enc Try.prog Try.f3 Rows.fnExactWayForRow.domain false) (Rows.fnExactWayForSpec.post enc Try.prog Try.f3 false true false false) := by
  refine returnsInHanded_of_change (C := Try.checked) (by kernel_rfl) started (by kernel_rfl) Try.func3
    (ChangeSpec.witness6 (enc := enc) (C := Try.checked) false ⟨#[], #[.agg #[.slice none 0 0, .slice none 0 0], .int .i64 0, .string ⟨#[]⟩], []⟩ 8 (by kernel_rfl) (by kernel_rfl) (by kernel_rfl) (by kernel_rfl)) ?_
  intro W base args ds gs before hval0 hW hcnd _
  have hval : ∀ (j : Nat) t v, Try.f3.params[j]? = some t → args[j]? = some v → Value.okWide Try.prog W .any base t v := hval0
  have hW2 := hW
  obtain ⟨p, q, hA0, hV, rfl, hfz, hnd⟩ := hW
  have hA : DataW.TrodAll enc Try.prog W 0 (fun _ => true) true Try.f3.params.toList args.toList ds p := hA0
  rw [Try.params3] at hA hval
  obtain ⟨v0, vs0, d0, ds0, p0, q0, hargs, rfl, rfl, h0, r0⟩ := trodAll_cons hA
  obtain ⟨v1, vs1, d1, ds1, p1, q1, rfl, rfl, rfl, h1, r1⟩ := trodAll_cons r0
  obtain ⟨v2, vs2, d2, ds2, p2, q2, rfl, rfl, rfl, h2, r2⟩ := trodAll_cons r1
  obtain ⟨rfl, rfl, rfl⟩ := trodAll_nil r2
  obtain rfl : args = #[v0, v1, v2] := by cases args; simp_all
  obtain ⟨rfl, rfl⟩ := trodVars_none hV
  have lt0 : ∀ x ∈ p0, x.block < W.heap.size := by obtain ⟨m, hm⟩ := h0; exact DataW.trod_lt m _ _ _ hm
  obtain ⟨a0, w0, g0⟩ := arg_agg (opens_TAtlas) Try.underlying25 (hval 0 25 v0 rfl rfl) h0
  have lt1 : ∀ x ∈ p1, x.block < W.heap.size := by obtain ⟨m, hm⟩ := h1; exact DataW.trod_lt m _ _ _ hm
  obtain ⟨a1, w1, g1⟩ := arg_one (opens_int Try.underlying3) (by obtain ⟨y, rfl⟩ := okWide_int Try.underlying3 (hval 1 3 v1 rfl rfl); rfl) h1
  have lt2 : ∀ x ∈ p2, x.block < W.heap.size := by obtain ⟨m, hm⟩ := h2; exact DataW.trod_lt m _ _ _ hm
  obtain ⟨a2, w2, g2⟩ := arg_one (opens_Str) (by obtain ⟨y, rfl⟩ := okWide_string Try.underlying9 (hval 2 9 v2 rfl rfl); rfl) h2
  have hcall := law_calls (fnExactWayFor_spec a0 w0 a1 w1 a2 w2) (DenV.cons g0 (DenV.cons g1 (DenV.cons g2 (DenV.nil _))))
  clear hA0 hval0
  refine Calls.mono hcall fun e W2 ⟨he, bel⟩ => ?_
  subst he
  exact ⟨_, rfl, _, _, _, [], _, [], hW2, trodAll_mk1 (shut_bool Try.underlying4 _), (trodAll_cons_mk (Below.trod (by kernel_rfl : laidOutB Try.prog = true) (by kernel_rfl) (of_decide_eq_true (by kernel_rfl)) h0 bel lt0) (trodAll_cons_mk (Below.trod (by kernel_rfl : laidOutB Try.prog = true) (by kernel_rfl) (of_decide_eq_true (by kernel_rfl)) h1 bel lt1) (trodAll_cons_mk (Below.trod (by kernel_rfl : laidOutB Try.prog = true) (by kernel_rfl) (of_decide_eq_true (by kernel_rfl)) h2 bel lt2) trodAll_mk0))), rfl, bel.frame _, fun h => by cases h⟩
theorem fnExactWayFor_and {a b : Bool} (h : a = true) (k : b = true) : (a && b) = true := by rw [h, k]; rfl
set_option maxRecDepth 100000 in
theorem fnExactWayFor_facts : joinedFacts Try.pinned.checked.prog 3 Try.f3 Rows.fnExactWayForSpec Rows.fnExactWayForRow = true := by
  unfold joinedFacts
  iterate 18 (rw [Bool.and_assoc])
  refine fnExactWayFor_and ?_ ?_
  · as_aux_lemma => kernel_rfl
  · as_aux_lemma => kernel_rfl
/-- The statement. -/
theorem fnExactWayFor_proved : Rows.FnExactWayForSaid :=
  OpenClaim.holds_of_wide 3 Try.f3 rfl rfl rfl rfl rfl rfl rfl ⟨rfl, rfl, rfl, rfl, rfl⟩ rfl rfl rfl rfl rfl (by kernel_rfl) Try.func3 fnExactWayFor_facts
    (of_decide_eq_true (by kernel_rfl)) (by unfold Func.isWrapper; first | (rw [if_pos (by decide +kernel)]; kernel_rfl) | (rw [if_neg (by decide +kernel)]; exact ⟨rfl, rfl⟩))
    (fun os started H enc _ => fnExactWayFor_lifted os started H enc)
end Go.Proofs.Ytakmheeaofhflaa
