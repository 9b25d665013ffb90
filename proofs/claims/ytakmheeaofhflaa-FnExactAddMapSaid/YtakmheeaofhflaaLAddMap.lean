/- FnExactAddMap: for all arguments the program's AddMap answers what the reference's answers, in memory of its own. No condition. -/
import Derived.Test.YtakmheeaofhflaaAtlas4W
import Derived.Test.YtakmheeaofhflaaTypesW
import Derived.Test.YtakmheeaofhflaaAvLaw
set_option linter.unusedVariables false
set_option linter.unusedSimpArgs false
set_option maxRecDepth 100000
namespace Go.Proofs.Ytakmheeaofhflaa
open Go Go.AV Go.M
open Go.ChangeShapes Go.WideShapes Go.ChangeAt Go.RowKit
section
attribute [local irreducible] OpW OpA OpS AWP FSpec ESpec GSpec OpE RetOk RetOkG RvDen Le Ev GuardIs SrcIs
theorem addMap_len (a : TAtlas) (p : TPlaces) : (addMap a p).1.Knows.length ≤ a.Knows.length ∧ sizeL TPlaces.size (addMap a p).1.Maps ≤ sizeL TPlaces.size a.Maps + p.size + 1 := by
  unfold addMap; split
  · exact ⟨Nat.zero_le _, Nat.zero_le _⟩
  · exact ⟨Nat.le_of_eq (setK_len _ _ _), by unfold sizeL; simp only [List.length_append, List.length_cons, List.length_nil, List.map_append, List.map_cons, List.map_nil, List.sum_append, List.sum_cons, List.sum_nil]; omega⟩
theorem fnExactAddMap_spec (a : TAtlas) (ha : a.ok) (p : TPlaces) (hpo : p.ok) : FSpec Try.prog 7 [AV.agg a.cs, AV.agg p.cs] (AV.bool true) := by
  refine spec_of_awp Try.func7 rfl Try.ntmps7 rfl ?_
  refine awp_seq ?_
  refine awp_region ?_
  refine sq_box rfl rfl rfl rfl (ev_tmp rfl) ?_
  intro b2
  refine sq_box rfl rfl rfl rfl (ev_tmp rfl) ?_
  intro b3
  refine sq_plain rfl rfl rfl (w_assign rfl ev_cb) ?_
  refine sq_nil ?_
  refine awp_seq ?_
  refine awp_region ?_
  refine sq_plain rfl rfl rfl (w_assign rfl ev_ci) ?_
  refine sq_nil ?_
  refine awp_seq ?_
  refine awp_region ?_
  refine sq_plain rfl rfl rfl (w_loadA 1 rfl (ev_tmp rfl) rfl Try.isAgg25 Try.sizeOf25 rfl) ?_
  refine sq_plain rfl rfl rfl (w_move rfl (ev_tmp rfl)) ?_
  refine sq_plain rfl rfl rfl (w_call rfl Try.call15 rfl (szAtlas_spec _ _ (by assumption) (by first | omega | ((try simp only [List.length_map, List.length_take, List.length_cons, List.length_nil, chunks_len, szR] at *); omega) | (have hc2 := hc; simp only [Bool.and_eq_true, Bool.or_eq_true, Bool.or_eq_false_iff, Bool.and_eq_false_iff, Bool.not_eq_true', Bool.not_eq_false', decide_eq_true_eq, decide_eq_false_iff_not, beq_iff_eq, bne_iff_ne, List.length_map, List.length_take] at hc2; omega)) (by first | omega | ((try simp only [List.length_map, List.length_take, List.length_cons, List.length_nil, chunks_len, szR] at *); omega) | (have hc2 := hc; simp only [Bool.and_eq_true, Bool.or_eq_true, Bool.or_eq_false_iff, Bool.and_eq_false_iff, Bool.not_eq_true', Bool.not_eq_false', decide_eq_true_eq, decide_eq_false_iff_not, beq_iff_eq, bne_iff_ne, List.length_map, List.length_take] at hc2; omega))) (evl_cons (ev_tmp rfl) (evl_cons (ev_tmp rfl) evl_nil))) ?_
  refine sq_plain rfl rfl rfl (w_assign rfl (ev_tmp rfl)) ?_
  refine sq_nil ?_
  refine awp_seq ?_
  refine awp_seq ?_
  refine awp_region ?_
  refine sq_plain rfl rfl rfl (w_move rfl (ev_tmp rfl)) ?_
  refine sq_plain rfl rfl rfl (w_lss rfl (ev_tmp rfl) ev_ci) ?_
  refine sq_nil ?_
  refine awp_cond (ev_tmp rfl) ?_ ?_
  · intro h21
    have k21 := of_decide_eq_true h21; try simp only [List.length_map] at k21
    refine awp_seq ?_
    refine awp_region ?_
    refine sq_plain rfl rfl rfl (w_assign rfl ev_cb) ?_
    refine sq_nil ?_
    refine awp_ret ?_
    exact retR rfl (rv_tmp' rfl (by first | rfl | (exfalso; simp_all [addMap_eq]; done) | (exfalso; simp_all [addMap_eq]; omega)))
  · intro h21
    have k21 := of_decide_eq_false h21; try simp only [List.length_map] at k21
    refine awp_skip ?_
    refine awp_seq ?_
    refine awp_region ?_
    refine sq_plain rfl rfl rfl (w_loadA 0 rfl (ev_tmp rfl) rfl Try.isAgg80 Try.sizeOf80 rfl) ?_
    refine sq_plain rfl rfl rfl (w_move rfl (ev_tmp rfl)) ?_
    refine sq_plain rfl rfl rfl (w_call rfl Try.call47 rfl (szPlaces_spec _ _ (by assumption) (by first | omega | ((try simp only [List.length_map, List.length_take, List.length_cons, List.length_nil, chunks_len, szR] at *); omega) | (have hc2 := hc; simp only [Bool.and_eq_true, Bool.or_eq_true, Bool.or_eq_false_iff, Bool.and_eq_false_iff, Bool.not_eq_true', Bool.not_eq_false', decide_eq_true_eq, decide_eq_false_iff_not, beq_iff_eq, bne_iff_ne, List.length_map, List.length_take] at hc2; omega)) (by first | omega | ((try simp only [List.length_map, List.length_take, List.length_cons, List.length_nil, chunks_len, szR] at *); omega) | (have hc2 := hc; simp only [Bool.and_eq_true, Bool.or_eq_true, Bool.or_eq_false_iff, Bool.and_eq_false_iff, Bool.not_eq_true', Bool.not_eq_false', decide_eq_true_eq, decide_eq_false_iff_not, beq_iff_eq, bne_iff_ne, List.length_map, List.length_take] at hc2; omega))) (evl_cons (ev_tmp rfl) (evl_cons (ev_tmp rfl) evl_nil))) ?_
    refine sq_plain rfl rfl rfl (w_assign rfl (ev_tmp rfl)) ?_
    refine sq_nil ?_
    refine awp_seq ?_
    refine awp_seq ?_
    refine awp_region ?_
    refine sq_plain rfl rfl rfl (w_move rfl (ev_tmp rfl)) ?_
    refine sq_plain rfl rfl rfl (w_lss rfl (ev_tmp rfl) ev_ci) ?_
    refine sq_nil ?_
    refine awp_cond (ev_tmp rfl) ?_ ?_
    · intro h26
      have k26 := of_decide_eq_true h26; try simp only [List.length_map] at k26
      refine awp_seq ?_
      refine awp_region ?_
      refine sq_plain rfl rfl rfl (w_assign rfl ev_cb) ?_
      refine sq_nil ?_
      refine awp_ret ?_
      exact retR rfl (rv_tmp' rfl (by first | rfl | (exfalso; simp_all [addMap_eq]; done) | (exfalso; simp_all [addMap_eq]; omega)))
    · intro h26
      have k26 := of_decide_eq_false h26; try simp only [List.length_map] at k26
      have hs : a.size ≤ 1048576 := by simp only [szR] at k21 k26; omega
      have hp : p.size ≤ 1048576 := by simp only [szR] at k21 k26; omega
      have hl := addMap_len a p
      have hs' := hs
      unfold TAtlas.size at hs'
      have hp' := hp
      unfold TPlaces.size at hp'
      have hcl : p.Cuts.length ≤ 1048576 := Nat.le_trans sizeL_len (show sizeL (fun x : Str => x.length) p.Cuts ≤ 1048576 by omega)
      have hps := placesN_size a.Maps 1
      have hpl := countN_le TPlaces.markEN_le a.Maps 1
      have hps2 := placesN_size (addMap a p).1.Maps 1
      have hpl2 := countN_le TPlaces.markEN_le (addMap a p).1.Maps 1
      have hX : 0 ≤ (1 : Int) ∧ a.markN 1 ≤ 4611686018427387904 := ⟨by omega, by unfold TAtlas.markN; omega⟩
      have hX0 : ¬ (a.markN 1 < 0) := by unfold TAtlas.markN; omega
      have hN : 0 ≤ (1 : Int) ∧ (addMap a p).1.markN 1 ≤ 4611686018427387904 := ⟨by omega, by unfold TAtlas.markN; omega⟩
      have hN0 : ¬ ((addMap a p).1.markN 1 < 0) := by unfold TAtlas.markN; omega
      have hPX : 0 ≤ a.markN 1 ∧ p.markN (a.markN 1) ≤ 4611686018427387904 := ⟨by omega, by unfold TPlaces.markN TAtlas.markN; omega⟩
      have hPX0 : ¬ (p.markN (a.markN 1) < 0) := by unfold TPlaces.markN TAtlas.markN; omega
      refine awp_skip ?_
      refine awp_seq ?_
      refine awp_region_tree _ 10 (.pure 0 (.pure 1 (.pure 2 (.pure 3 (.pure 4 (.pure 5 (.pure 6 (.pure 7 (.e1 8 (.e1 9 .nil)))))))))) (by kernel_rfl) (by kernel_rfl) rfl invx_self ?_
      refine bt_plain rfl rfl rfl (fun ext => w_loadA 1 rfl (ev_tmp rfl) rfl Try.isAgg25 Try.sizeOf25 rfl) ?_
      refine bt_plain rfl rfl rfl (fun ext => w_call rfl Try.call17 rfl (toAtlas_spec _ (by first | assumption | omega | (simp only [] at *; omega))) (evl_cons (ev_tmp rfl) evl_nil)) ?_
      refine bt_plain rfl rfl rfl (fun ext => w_loadA 0 rfl (ev_tmp rfl) rfl Try.isAgg80 Try.sizeOf80 rfl) ?_
      refine bt_plain rfl rfl rfl (fun ext => w_call rfl Try.call49 rfl (toPlaces_spec _ (by first | assumption | omega | (simp only [] at *; omega))) (evl_cons (ev_tmp rfl) evl_nil)) ?_
      refine bt_plain rfl rfl rfl (fun ext => w_call rfl Try.call48 rfl (addMapS_spec a p hs hp) (evl_cons (ev_tmp rfl) (evl_cons (ev_tmp rfl) evl_nil))) ?_
      refine bt_plain rfl rfl rfl (fun ext => w_move rfl (ev_tmp rfl)) ?_
      refine bt_plain rfl rfl rfl (fun ext => w_extract rfl (ev_tmp rfl) rfl) ?_
      refine bt_plain rfl rfl rfl (fun ext => w_extract rfl (ev_tmp rfl) rfl) ?_
      refine bt_e1 ?_
      refine eff_s rfl rfl rfl (opE_alloc rfl Try.zeroValue31 rfl) (fun a _ => (by first | exact invx_mk rfl | exact invx_mk (List.append_assoc _ _ _) | exact invx_all)) ?_
      intro b6 _
      refine bt_e1 ?_
      refine eff_s0 rfl rfl rfl (opE_storeB0 2 rfl rfl (ev_tmp rfl) (ev_tmp rfl) (as_agg _) rfl Try.sizeOf31 rfl) (fun a _ => (by first | exact invx_mk rfl | exact invx_mk (List.append_assoc _ _ _) | exact invx_all)) ?_
      intro _ _
      refine bt_nil ?_
      refine sq_plain rfl rfl rfl (w_assign rfl (ev_tmp rfl)) ?_
      refine sq_nil ?_
      refine awp_seq ?_
      refine awp_region ?_
      refine sq_plain rfl rfl rfl (w_loadA 1 rfl (ev_tmp rfl) rfl Try.isAgg25 Try.sizeOf25 rfl) ?_
      refine sq_callGT [] 3 2 ([]) ([]) (fun zz => nin TPlaces.ow a.Maps zz.2.2) rfl rfl rfl rfl Try.call17 rfl rfl (show List.Perm ([]) (([]) ++ ([])) from List.Perm.refl _) (toAtlas_own a hs) (evl_cons (ev_tmp rfl) evl_nil) (fun a => perm_lin) ?_
      intro x36 ok36
      refine sq_alloc rfl rfl rfl rfl Try.zeroValue31 rfl ?_
      intro b8
      refine sq_storeB0 0 rfl rfl rfl (ev_tmp rfl) (ev_tmp rfl) (as_agg _) rfl Try.sizeOf31 rfl ?_
      refine sq_nil ?_
      refine awp_seq ?_
      refine awp_region ?_
      refine sq_plain rfl rfl rfl (w_loadA 3 rfl (ev_tmp rfl) rfl Try.isAgg80 Try.sizeOf80 rfl) ?_
      refine sq_callG [] rfl rfl rfl rfl Try.call49 rfl (toPlaces_own _ (by assumption)) (evl_cons (ev_tmp rfl) evl_nil) rfl ?_
      intro x38 ok38
      refine sq_alloc rfl rfl rfl rfl Try.zeroValue83 rfl ?_
      intro b9
      refine sq_storeB0 0 rfl rfl rfl (ev_tmp rfl) (ev_tmp rfl) (as_agg _) rfl Try.sizeOf83 rfl ?_
      refine sq_nil ?_
      refine awp_seq ?_
      refine awp_region ?_
      refine sq_plain rfl rfl rfl (w_loadA 3 rfl (ev_tmp rfl) rfl Try.isAgg31 Try.sizeOf31 rfl) ?_
      refine sq_plain rfl rfl rfl (w_loadA 0 rfl (ev_tmp rfl) rfl Try.isAgg83 Try.sizeOf83 rfl) ?_
      refine sq_callGB [] rfl rfl rfl rfl Try.call50 rfl (addMap_own a p hs hp) rfl (evlb_cons (evb_lt (ev_tmp rfl) (lt_agg (lc_cons (nin_lend TPlaces.lcM (by first | exact ok36 | exact ok36.trans (marksN_len _ _).symm) 4 rfl (fun o ho => List.mem_of_mem_drop (i := 9) (show o ∈ nin TPlaces.ow a.Maps x36.2.2 from by first | exact ho | exact List.mem_append_left _ ho | exact List.mem_append_right _ ho | exact List.mem_append_right _ (List.mem_append_left _ ho) | exact List.mem_append_right _ (List.mem_append_right _ ho)))) (lc_cons (lt_arr (List.mem_of_getElem? (i := 5) rfl) le_refl_e) lc_nil)))) (evlb_cons (evb_lt (ev_tmp rfl) (lt_agg (lc_cons lt_refl (lc_cons (lt_arr (List.mem_of_getElem? (i := 1) rfl) le_refl_e) (lc_cons (lt_arr (List.mem_of_getElem? (i := 2) rfl) le_refl_e) lc_nil))))) evlb_nil)) (by first | exact flatO_nil | (intro _; exact flatO_nil) | (intro _; first | exact flat_is _ | exact flat_ik _ _ | exact flat_bool _ | exact flat_str _ | exact flat_nils) | (intro _; refine flat_tup ?_; (repeat (first | exact flatl_nil | (refine flatl_cons (by first | (first | exact flat_is _ | exact flat_ik _ _ | exact flat_bool _ | exact flat_str _ | exact flat_nils) | (refine flat_agg ?_; (repeat (first | exact flatl_nil | (refine flatl_cons (by first | exact flat_is _ | exact flat_ik _ _ | exact flat_bool _ | exact flat_str _ | exact flat_nils) ?_))))) ?_))); done) | (intro _; refine flat_agg ?_; (repeat (first | exact flatl_nil | (refine flatl_cons (by first | exact flat_is _ | exact flat_ik _ _ | exact flat_bool _ | exact flat_str _ | exact flat_nils) ?_))); done) | ((repeat (first | exact flatO_nil | (refine flatO_cons (flatO_box ?_) ?_; (repeat (first | exact flatl_nil | (refine flatl_cons (by first | exact flat_is _ | exact flat_ik _ _ | exact flat_bool _ | exact flat_str _ | exact flat_nils) ?_)))) | (refine flatO_cons (flatO_arr ?_) ?_; (repeat (first | exact flate_nil | (refine flate_map (fun _ => ?_); (first | exact TWrite.flat _ | exact TFeedItem.flat _ | exact TIdx.flat _ | exact TVer.flat _ | (repeat (first | exact flatl_nil | (refine flatl_cons (by first | exact flat_is _ | exact flat_ik _ _ | exact flat_bool _ | exact flat_str _ | exact flat_nils) ?_))))) | (refine flate_rep ?_; (first | exact TWrite.flat _ | exact TFeedItem.flat _ | exact TIdx.flat _ | exact TVer.flat _ | (repeat (first | exact flatl_nil | (refine flatl_cons (by first | exact flat_is _ | exact flat_ik _ _ | exact flat_bool _ | exact flat_str _ | exact flat_nils) ?_))))) | (refine flate_cons ?_ ?_; (first | exact TWrite.flat _ | exact TFeedItem.flat _ | exact TIdx.flat _ | exact TVer.flat _ | (repeat (first | exact flatl_nil | (refine flatl_cons (by first | exact flat_is _ | exact flat_ik _ _ | exact flat_bool _ | exact flat_str _ | exact flat_nils) ?_))))) | refine flate_app ?_ ?_))))); done) | (intro _; (repeat (first | exact flatO_nil | (refine flatO_cons (flatO_box ?_) ?_; (repeat (first | exact flatl_nil | (refine flatl_cons (by first | exact flat_is _ | exact flat_ik _ _ | exact flat_bool _ | exact flat_str _ | exact flat_nils) ?_)))) | (refine flatO_cons (flatO_arr ?_) ?_; (repeat (first | exact flate_nil | (refine flate_map (fun _ => ?_); (first | exact TWrite.flat _ | exact TFeedItem.flat _ | exact TIdx.flat _ | exact TVer.flat _ | (repeat (first | exact flatl_nil | (refine flatl_cons (by first | exact flat_is _ | exact flat_ik _ _ | exact flat_bool _ | exact flat_str _ | exact flat_nils) ?_))))) | (refine flate_rep ?_; (first | exact TWrite.flat _ | exact TFeedItem.flat _ | exact TIdx.flat _ | exact TVer.flat _ | (repeat (first | exact flatl_nil | (refine flatl_cons (by first | exact flat_is _ | exact flat_ik _ _ | exact flat_bool _ | exact flat_str _ | exact flat_nils) ?_))))) | (refine flate_cons ?_ ?_; (first | exact TWrite.flat _ | exact TFeedItem.flat _ | exact TIdx.flat _ | exact TVer.flat _ | (repeat (first | exact flatl_nil | (refine flatl_cons (by first | exact flat_is _ | exact flat_ik _ _ | exact flat_bool _ | exact flat_str _ | exact flat_nils) ?_))))) | refine flate_app ?_ ?_))))); done)) (fun x => TAtlas.flatV _ x _) (fun x => TAtlas.flatW _ x) ?_
      intro x42 ok42
      refine sq_le (le_mid (NT := nin TPlaces.ow (addMap a p).1.Maps x42.2.2 ++ (nin TPlaces.ow a.Maps x36.2.2)) 2 9 (List.Perm.refl _)) ?_
      refine sq_plain rfl rfl rfl (w_move rfl (ev_tmp rfl)) ?_
      refine sq_plain rfl rfl rfl (w_extract rfl (ev_tmp rfl) rfl) ?_
      refine sq_plain rfl rfl rfl (w_extract rfl (ev_tmp rfl) rfl) ?_
      refine sq_alloc rfl rfl rfl rfl Try.zeroValue31 rfl ?_
      intro b10
      refine sq_storeB0 0 rfl rfl rfl (ev_tmp rfl) (ev_tmp rfl) (as_agg _) rfl Try.sizeOf31 rfl ?_
      refine sq_plain rfl rfl rfl (w_assign rfl (ev_tmp rfl)) ?_
      refine sq_nil ?_
      refine awp_seq ?_
      refine awp_seq ?_
      refine awp_own (by first | (simp only [TAtlas.ow, TPlaces.ow, pick, List.eraseIdx_cons_zero, List.eraseIdx_cons_succ, List.set_cons_zero, List.set_cons_succ, List.cons_append, List.nil_append, List.getElem?_cons_zero, List.getElem?_cons_succ, List.append_nil, List.take_succ_cons, List.take_zero, List.drop_succ_cons, List.drop_zero]; exact rfl) | exact rfl) ?_
      refine awp_region ?_
      refine sq_plain rfl rfl rfl (w_loadA 0 rfl (ev_tmp rfl) rfl Try.isAgg31 Try.sizeOf31 rfl) ?_
      refine sq_plain rfl rfl rfl (w_loadA 11 rfl (ev_tmp rfl) rfl Try.isAgg31 Try.sizeOf31 rfl) ?_
      refine sq_plain rfl rfl rfl (w_callB rfl Try.call20 rfl (eqAtlas_spec _ _) (flat_bool _) (evlb_cons (evb_lt (ev_tmp rfl) (lt_agg (lc_cons (nin_lend TPlaces.lcM (by first | exact ok42 | exact ok42.trans (marksN_len _ _).symm) 1 rfl (fun o ho => List.mem_of_mem_drop (i := 12) (show o ∈ nin TPlaces.ow (addMap a p).1.Maps x42.2.2 ++ (nin TPlaces.ow a.Maps x36.2.2) from by first | exact ho | exact List.mem_append_left _ ho | exact List.mem_append_right _ ho | exact List.mem_append_right _ (List.mem_append_left _ ho) | exact List.mem_append_right _ (List.mem_append_right _ ho)))) (lc_cons (lt_arr (List.mem_of_getElem? (i := 2) rfl) le_refl_e) lc_nil)))) (evlb_cons (evb (ev_tmp rfl)) evlb_nil))) ?_
      refine sq_plain rfl rfl rfl (w_not rfl (ev_tmp rfl)) ?_
      refine sq_plain rfl rfl rfl (w_move rfl (ev_tmp rfl)) ?_
      refine sq_grd rfl rfl (guard_f rfl rfl rfl) (fun hc => w_move rfl (ev_tmp rfl)) ?_
      refine sq_grd rfl rfl (guard_f rfl rfl rfl) (fun hc => w_move rfl (ev_tmp rfl)) ?_
      refine sq_grd rfl rfl (guard_f rfl rfl rfl) (fun hc => w_bneq rfl Try.underlying4 (ev_whn rfl hc) (ev_whn rfl hc)) ?_
      refine sq_plain rfl rfl rfl (w_or rfl (ev_tmp rfl) (evif_w rfl)) ?_
      refine sq_nil ?_
      refine awp_cond (ev_tmp rfl) ?_ ?_
      · intro h53
        refine awp_seq ?_
        refine awp_region ?_
        refine sq_plain rfl rfl rfl (w_assign rfl ev_cb) ?_
        refine sq_nil ?_
        refine awp_ret ?_
        exact retR rfl (rv_tmp' rfl (by first | rfl | (exfalso; simp_all [addMap_eq]; done) | (exfalso; simp_all [addMap_eq]; omega)))
      · intro h53
        refine awp_skip ?_
        refine awp_seq ?_
        refine awp_seq ?_
        refine awp_region_any (by kernel_rfl) (by kernel_rfl) rfl ?_
        refine ch_plain rfl rfl (w_loadA 6 rfl (ev_tmp rfl) rfl Try.isAgg31 Try.sizeOf31 rfl) ?_
        refine ch_plain rfl rfl (w_loadA 10 rfl (ev_tmp rfl) rfl Try.isAgg25 Try.sizeOf25 rfl) ?_
        refine ch_plain rfl rfl (w_call rfl Try.call17 rfl (toAtlas_spec _ (by first | assumption | omega | (simp only [] at *; omega))) (evl_cons (ev_tmp rfl) evl_nil)) ?_
        refine ch_plain rfl rfl (w_callB rfl Try.call20 rfl (eqAtlas_spec _ _) (flat_bool _) (evlb_cons (evb_lt (ev_tmp rfl) (lt_agg (lc_cons (nin_lend TPlaces.lcM (by first | exact ok36 | exact ok36.trans (marksN_len _ _).symm) 7 rfl (fun o ho => List.mem_of_mem_drop (i := 12) (show o ∈ nin TPlaces.ow (addMap a p).1.Maps x42.2.2 ++ (nin TPlaces.ow a.Maps x36.2.2) from by first | exact ho | exact List.mem_append_left _ ho | exact List.mem_append_right _ ho | exact List.mem_append_right _ (List.mem_append_left _ ho) | exact List.mem_append_right _ (List.mem_append_right _ ho)))) (lc_cons (lt_arr (List.mem_of_getElem? (i := 8) rfl) le_refl_e) lc_nil)))) (evlb_cons (evb (ev_tmp rfl)) evlb_nil))) ?_
        refine ch_plain rfl rfl (w_not rfl (ev_tmp rfl)) ?_
        refine ch_nil ?_
        refine awp_cond (ev_tmp rfl) ?_ ?_
        · intro h58
          refine awp_seq ?_
          refine awp_region ?_
          refine sq_plain rfl rfl rfl (w_assign rfl ev_cb) ?_
          refine sq_nil ?_
          refine awp_ret ?_
          exact retR rfl (rv_tmp' rfl (by first | rfl | (exfalso; simp_all [addMap_eq]; done) | (exfalso; simp_all [addMap_eq]; omega)))
        · intro h58
          refine awp_skip ?_
          refine awp_seq ?_
          refine awp_seq ?_
          refine awp_region_any (by kernel_rfl) (by kernel_rfl) rfl ?_
          refine ch_plain rfl rfl (w_loadA 3 rfl (ev_tmp rfl) rfl Try.isAgg83 Try.sizeOf83 rfl) ?_
          refine ch_plain rfl rfl (w_loadA 9 rfl (ev_tmp rfl) rfl Try.isAgg80 Try.sizeOf80 rfl) ?_
          refine ch_plain rfl rfl (w_call rfl Try.call49 rfl (toPlaces_spec _ (by first | assumption | omega | (simp only [] at *; omega))) (evl_cons (ev_tmp rfl) evl_nil)) ?_
          refine ch_plain rfl rfl (w_callB rfl Try.call51 rfl (eqPlaces_spec _ _) (flat_bool _) (evlb_cons (evb_lt (ev_tmp rfl) (lt_agg (lc_cons lt_refl (lc_cons (lt_arr (List.mem_of_getElem? (i := 4) rfl) le_refl_e) (lc_cons (lt_arr (List.mem_of_getElem? (i := 5) rfl) le_refl_e) lc_nil))))) (evlb_cons (evb (ev_tmp rfl)) evlb_nil))) ?_
          refine ch_plain rfl rfl (w_not rfl (ev_tmp rfl)) ?_
          refine ch_nil ?_
          refine awp_cond (ev_tmp rfl) ?_ ?_
          · intro h63
            refine awp_seq ?_
            refine awp_region ?_
            refine sq_plain rfl rfl rfl (w_assign rfl ev_cb) ?_
            refine sq_nil ?_
            refine awp_ret ?_
            exact retR rfl (rv_tmp' rfl (by first | rfl | (exfalso; simp_all [addMap_eq]; done) | (exfalso; simp_all [addMap_eq]; omega)))
          · intro h63
            refine awp_skip ?_
            refine awp_seq ?_
            refine awp_region ?_
            refine sq_plain rfl rfl rfl (w_assign rfl ev_ci) ?_
            refine sq_nil ?_
            refine awp_seq ?_
            refine awp_own (by first | (simp only [TAtlas.ow, TPlaces.ow, pick, List.eraseIdx_cons_zero, List.eraseIdx_cons_succ, List.set_cons_zero, List.set_cons_succ, List.cons_append, List.nil_append, List.getElem?_cons_zero, List.getElem?_cons_succ, List.append_nil, List.take_succ_cons, List.take_zero, List.drop_succ_cons, List.drop_zero]; exact rfl) | exact rfl) ?_
            refine awp_region ?_
            refine sq_plain rfl rfl rfl (w_loadA 6 rfl (ev_tmp rfl) rfl Try.isAgg31 Try.sizeOf31 rfl) ?_
            refine sq_plain rfl rfl rfl (w_move rfl (ev_tmp rfl)) ?_
            refine sq_callGT [7, 7] 10 2 (nin TPlaces.ow a.Maps x36.2.2) (nin TPlaces.ow (addMap a p).1.Maps x42.2.2) (fun zz => nin TPlaces.ow (marksN TPlaces.markE TPlaces.markEN a.Maps 1) x36.2.2 ++ (nin TPlaces.ow (addMap a p).1.Maps x42.2.2)) rfl rfl rfl rfl Try.call21 rfl rfl (show List.Perm (nin TPlaces.ow (addMap a p).1.Maps x42.2.2 ++ (nin TPlaces.ow a.Maps x36.2.2)) ((nin TPlaces.ow a.Maps x36.2.2) ++ (nin TPlaces.ow (addMap a p).1.Maps x42.2.2)) from List.perm_append_comm) (markAtlas_spec a x36 1 ok36 hX) (evl_cons (ev_tmp rfl) (evl_cons (ev_tmp rfl) evl_nil)) (fun a => List.Perm.refl _) ?_
            intro x66 ok66
            refine sq_plain rfl rfl rfl (w_assign rfl (ev_tmp rfl)) ?_
            refine sq_nil ?_
            refine awp_seq ?_
            refine awp_region ?_
            refine sq_plain rfl rfl rfl (w_loadA 5 rfl (ev_tmp rfl) rfl Try.isAgg83 Try.sizeOf83 rfl) ?_
            refine sq_plain rfl rfl rfl (w_move rfl (ev_tmp rfl)) ?_
            refine sq_callG [6, 6] rfl rfl rfl rfl Try.call52 rfl (markPlaces_spec _ _ _ (by first | assumption | first | omega | (refine ⟨by omega, ?_⟩; simp only [marks_len] at *; omega))) (evl_cons (ev_tmp rfl) (evl_cons (ev_tmp rfl) evl_nil)) rfl ?_
            intro x69 ok69
            refine sq_plain rfl rfl rfl (w_assign rfl (ev_tmp rfl)) ?_
            refine sq_nil ?_
            refine awp_seq ?_
            refine awp_seq ?_
            refine awp_own (by first | (simp only [TAtlas.ow, TPlaces.ow, pick, List.eraseIdx_cons_zero, List.eraseIdx_cons_succ, List.set_cons_zero, List.set_cons_succ, List.cons_append, List.nil_append, List.getElem?_cons_zero, List.getElem?_cons_succ, List.append_nil, List.take_succ_cons, List.take_zero, List.drop_succ_cons, List.drop_zero]; exact rfl) | exact rfl) ?_
            refine awp_region ?_
            refine sq_plain rfl rfl rfl (w_move rfl (ev_tmp rfl)) ?_
            refine sq_plain rfl rfl rfl (w_lss rfl (ev_tmp rfl) ev_ci) ?_
            refine sq_plain rfl rfl rfl (w_move rfl (ev_tmp rfl)) ?_
            refine sq_grd rfl rfl (guard_f rfl rfl rfl) (fun hc => w_loadA 4 rfl (ev_tmp rfl) rfl Try.isAgg31 Try.sizeOf31 rfl) ?_
            refine sq_grd rfl rfl (guard_f rfl rfl rfl) (fun hc => w_loadA 11 rfl (ev_tmp rfl) rfl Try.isAgg31 Try.sizeOf31 rfl) ?_
            refine sq_grd rfl rfl (guard_f rfl rfl rfl) (fun hc => w_callB rfl Try.call20 rfl (eqAtlas_spec _ _) (flat_bool _) (evlb_cons (evb_lt (ev_whn rfl hc) (lt_agg (lc_cons (nin_lend TPlaces.lcM (by first | exact ok42 | exact ok42.trans (marksN_len _ _).symm) 5 rfl (fun o ho => List.mem_of_mem_drop (i := 12) (show o ∈ nin TPlaces.ow (marksN TPlaces.markE TPlaces.markEN a.Maps 1) x36.2.2 ++ (nin TPlaces.ow (addMap a p).1.Maps x42.2.2) from by first | exact ho | exact List.mem_append_left _ ho | exact List.mem_append_right _ ho | exact List.mem_append_right _ (List.mem_append_left _ ho) | exact List.mem_append_right _ (List.mem_append_right _ ho)))) (lc_cons (lt_arr (List.mem_of_getElem? (i := 6) rfl) le_refl_e) lc_nil)))) (evlb_cons (evb (ev_whn rfl hc)) evlb_nil))) ?_
            refine sq_grd rfl rfl (guard_f rfl rfl rfl) (fun hc => w_not rfl (ev_whn rfl hc)) ?_
            refine sq_plain rfl rfl rfl (w_or rfl (ev_tmp rfl) (evif_w rfl)) ?_
            refine sq_plain rfl rfl rfl (w_move rfl (ev_tmp rfl)) ?_
            refine sq_grd rfl rfl (guard_f rfl rfl rfl) (fun hc => w_move rfl (ev_tmp rfl)) ?_
            refine sq_grd rfl rfl (guard_f rfl rfl rfl) (fun hc => w_move rfl (ev_tmp rfl)) ?_
            refine sq_grd rfl rfl (guard_f rfl rfl rfl) (fun hc => w_bneq rfl Try.underlying4 (ev_whn rfl hc) (ev_whn rfl hc)) ?_
            refine sq_plain rfl rfl rfl (w_or rfl (ev_tmp rfl) (evif_w rfl)) ?_
            refine sq_nil ?_
            refine awp_cond (ev_tmp rfl) ?_ ?_
            · intro h82
              refine awp_seq ?_
              refine awp_region ?_
              refine sq_plain rfl rfl rfl (w_assign rfl ev_cb) ?_
              refine sq_nil ?_
              refine awp_ret ?_
              exact retR rfl (rv_tmp' rfl (by first | rfl | (exfalso; simp_all [addMap_eq]; done) | (exfalso; simp_all [addMap_eq]; omega)))
            · intro h82
              refine awp_skip ?_
              refine awp_seq ?_
              refine awp_region ?_
              refine sq_plain rfl rfl rfl (w_assign rfl ev_ci) ?_
              refine sq_nil ?_
              refine awp_seq ?_
              refine awp_own (by first | (simp only [TAtlas.ow, TPlaces.ow, pick, List.eraseIdx_cons_zero, List.eraseIdx_cons_succ, List.set_cons_zero, List.set_cons_succ, List.cons_append, List.nil_append, List.getElem?_cons_zero, List.getElem?_cons_succ, List.append_nil, List.take_succ_cons, List.take_zero, List.drop_succ_cons, List.drop_zero]; exact rfl) | exact rfl) ?_
              refine awp_region ?_
              refine sq_plain rfl rfl rfl (w_loadA 4 rfl (ev_tmp rfl) rfl Try.isAgg31 Try.sizeOf31 rfl) ?_
              refine sq_plain rfl rfl rfl (w_move rfl (ev_tmp rfl)) ?_
              refine sq_callGT [5, 5] 10 2 (nin TPlaces.ow (addMap a p).1.Maps x42.2.2) (nin TPlaces.ow (marksN TPlaces.markE TPlaces.markEN a.Maps 1) x36.2.2) (fun zz => nin TPlaces.ow (marksN TPlaces.markE TPlaces.markEN (addMap a p).1.Maps 1) x42.2.2 ++ (nin TPlaces.ow (marksN TPlaces.markE TPlaces.markEN a.Maps 1) x36.2.2)) rfl rfl rfl rfl Try.call21 rfl rfl (show List.Perm (nin TPlaces.ow (marksN TPlaces.markE TPlaces.markEN a.Maps 1) x36.2.2 ++ (nin TPlaces.ow (addMap a p).1.Maps x42.2.2)) ((nin TPlaces.ow (addMap a p).1.Maps x42.2.2) ++ (nin TPlaces.ow (marksN TPlaces.markE TPlaces.markEN a.Maps 1) x36.2.2)) from List.perm_append_comm) (markAtlas_spec (addMap a p).1 x42 1 ok42 hN) (evl_cons (ev_tmp rfl) (evl_cons (ev_tmp rfl) evl_nil)) (fun a => List.Perm.refl _) ?_
              intro x85 ok85
              refine sq_plain rfl rfl rfl (w_assign rfl (ev_tmp rfl)) ?_
              refine sq_nil ?_
              refine awp_seq ?_
              refine awp_region ?_
              refine sq_plain rfl rfl rfl (w_assign rfl ev_ci) ?_
              refine sq_nil ?_
              refine awp_seq ?_
              refine awp_own (by first | (simp only [TAtlas.ow, TPlaces.ow, pick, List.eraseIdx_cons_zero, List.eraseIdx_cons_succ, List.set_cons_zero, List.set_cons_succ, List.cons_append, List.nil_append, List.getElem?_cons_zero, List.getElem?_cons_succ, List.append_nil, List.take_succ_cons, List.take_zero, List.drop_succ_cons, List.drop_zero]; exact rfl) | exact rfl) ?_
              refine awp_region ?_
              refine sq_plain rfl rfl rfl (w_loadA 6 rfl (ev_tmp rfl) rfl Try.isAgg31 Try.sizeOf31 rfl) ?_
              refine sq_plain rfl rfl rfl (w_move rfl (ev_tmp rfl)) ?_
              refine sq_plain rfl rfl rfl (w_callB rfl Try.call46 rfl (heldAtlas_spec (addMap a p).1 1 hN) (flat_ik _ _) (evlb_cons (evb_lt (ev_tmp rfl) (lt_agg (lc_cons (nin_lend TPlaces.lcM (by first | exact ok42 | exact ok42.trans (marksN_len _ _).symm) 0 rfl (fun o ho => List.mem_of_mem_drop (i := 12) (show o ∈ nin TPlaces.ow (marksN TPlaces.markE TPlaces.markEN (addMap a p).1.Maps 1) x42.2.2 ++ (nin TPlaces.ow (marksN TPlaces.markE TPlaces.markEN a.Maps 1) x36.2.2) from by first | exact ho | exact List.mem_append_left _ ho | exact List.mem_append_right _ ho | exact List.mem_append_right _ (List.mem_append_left _ ho) | exact List.mem_append_right _ (List.mem_append_right _ ho)))) (lc_cons (lt_arr (List.mem_of_getElem? (i := 1) rfl) le_refl_e) lc_nil)))) (evlb_cons (evb (ev_tmp rfl)) evlb_nil))) ?_
              refine sq_plain rfl rfl rfl (w_assign rfl (ev_tmp rfl)) ?_
              refine sq_nil ?_
              refine awp_seq ?_
              refine awp_seq ?_
              refine awp_region ?_
              refine sq_plain rfl rfl rfl (w_move rfl (ev_tmp rfl)) ?_
              refine sq_plain rfl rfl rfl (w_lss rfl (ev_tmp rfl) ev_ci) ?_
              refine sq_nil ?_
              refine awp_cond (ev_tmp rfl) ?_ ?_
              · intro h90
                have k90 := of_decide_eq_true h90; try simp only [List.length_map] at k90
                refine awp_seq ?_
                refine awp_region ?_
                refine sq_plain rfl rfl rfl (w_assign rfl ev_cb) ?_
                refine sq_nil ?_
                refine awp_ret ?_
                exact retR rfl (rv_tmp' rfl (by first | rfl | (exfalso; simp_all [addMap_eq]; done) | (exfalso; simp_all [addMap_eq]; omega)))
              · intro h90
                have k90 := of_decide_eq_false h90; try simp only [List.length_map] at k90
                refine awp_skip ?_
                refine awp_seq ?_
                refine awp_seq ?_
                refine awp_region ?_
                refine sq_plain rfl rfl rfl (w_move rfl (ev_tmp rfl)) ?_
                refine sq_plain rfl rfl rfl (w_move rfl (ev_tmp rfl)) ?_
                refine sq_plain rfl rfl rfl (w_neq rfl (ev_tmp rfl) (ev_tmp rfl)) ?_
                refine sq_nil ?_
                refine awp_cond (ev_tmp rfl) ?_ ?_
                · intro h93
                  have k93 := ne_of_bne h93; try simp only [List.length_map] at k93
                  refine awp_seq ?_
                  refine awp_region ?_
                  refine sq_plain rfl rfl rfl (w_assign rfl ev_cb) ?_
                  refine sq_nil ?_
                  refine awp_ret ?_
                  exact retR rfl (rv_tmp' rfl (by first | rfl | (exfalso; simp_all [addMap_eq]; done) | (exfalso; simp_all [addMap_eq]; omega)))
                · intro h93
                  have k93 := eq_of_bne_false h93; try simp only [List.length_map] at k93
                  refine awp_skip ?_
                  refine awp_seq ?_
                  refine awp_region_tree _ 10 (.pure 0 (.pure 1 (.pure 2 (.pure 3 (.e2 4 (.pure 5 (.pure 6 (.pure 7 (.e1 8 (.e1 9 .nil))))) 8 (.e1 4 (.pure 5 (.pure 6 (.pure 7 (.e1 9 .nil)))))))))) (by kernel_rfl) (by kernel_rfl) rfl (invx_take 12) ?_
                  refine bt_plain rfl rfl rfl (fun ext => w_loadA 10 rfl (ev_tmp rfl) rfl Try.isAgg25 Try.sizeOf25 rfl) ?_
                  refine bt_plain rfl rfl rfl (fun ext => w_call rfl Try.call17 rfl (toAtlas_spec _ (by first | assumption | omega | (simp only [] at *; omega))) (evl_cons (ev_tmp rfl) evl_nil)) ?_
                  refine bt_plain rfl rfl rfl (fun ext => w_loadA 9 rfl (ev_tmp rfl) rfl Try.isAgg80 Try.sizeOf80 rfl) ?_
                  refine bt_plain rfl rfl rfl (fun ext => w_call rfl Try.call49 rfl (toPlaces_spec _ (by first | assumption | omega | (simp only [] at *; omega))) (evl_cons (ev_tmp rfl) evl_nil)) ?_
                  refine bt_e2 ?_ ?_
                  · refine eff_s rfl rfl rfl (opE_midT 12 2 (fun zz => nin TPlaces.ow (addMap a p).1.Maps zz.2.2 ++ (nin TPlaces.ow (marksN TPlaces.markE TPlaces.markEN (addMap a p).1.Maps 1) x42.2.2 ++ (nin TPlaces.ow (marksN TPlaces.markE TPlaces.markEN a.Maps 1) x36.2.2))) (fun zz => List.Perm.refl _) (opE_call [] rfl Try.call50 rfl (addMap_own a p hs hp) (evl_cons (ev_tmp rfl) (evl_cons (ev_tmp rfl) evl_nil)) rfl)) (fun a _ => (by first | exact invx_mk rfl | exact invx_mk (List.append_assoc _ _ _) | exact invx_all)) ?_
                    intro x99 ok99
                    refine bt_plain rfl rfl rfl (fun ext => w_move rfl (ev_tmp rfl)) ?_
                    refine bt_plain rfl rfl rfl (fun ext => w_extract rfl (ev_tmp rfl) rfl) ?_
                    refine bt_plain rfl rfl rfl (fun ext => w_extract rfl (ev_tmp rfl) rfl) ?_
                    refine bt_e1 ?_
                    refine eff_s rfl rfl rfl (opE_mid 14 <| opE_alloc rfl Try.zeroValue31 rfl) (fun a _ => (by first | exact invx_mk rfl | exact invx_mk (List.append_assoc _ _ _) | exact invx_all)) ?_
                    intro b15 _
                    refine bt_e1 ?_
                    refine eff_s0 rfl rfl rfl (opE_storeB0 14 rfl rfl (ev_tmp rfl) (ev_tmp rfl) (as_agg _) rfl Try.sizeOf31 rfl) (fun a _ => (by first | exact invx_mk rfl | exact invx_mk (List.append_assoc _ _ _) | exact invx_all)) ?_
                    intro _ _
                    refine bt_nil ?_
                    refine sq_plain rfl rfl rfl (w_assign rfl (ev_tmp rfl)) ?_
                    refine sq_nil ?_
                    refine awp_seq ?_
                    refine awp_seq ?_
                    refine awp_own (by first | (simp only [TAtlas.ow, TPlaces.ow, pick, List.eraseIdx_cons_zero, List.eraseIdx_cons_succ, List.set_cons_zero, List.set_cons_succ, List.cons_append, List.nil_append, List.getElem?_cons_zero, List.getElem?_cons_succ, List.append_nil, List.take_succ_cons, List.take_zero, List.drop_succ_cons, List.drop_zero]; exact rfl) | exact rfl) ?_
                    refine awp_region ?_
                    refine sq_plain rfl rfl rfl (w_loadA 14 rfl (ev_tmp rfl) rfl Try.isAgg31 Try.sizeOf31 rfl) ?_
                    refine sq_plain rfl rfl rfl (w_loadA 11 rfl (ev_tmp rfl) rfl Try.isAgg31 Try.sizeOf31 rfl) ?_
                    refine sq_plain rfl rfl rfl (w_callB rfl Try.call20 rfl (eqAtlas_spec _ _) (flat_bool _) (evlb_cons (evb_lt (ev_tmp rfl) (lt_agg (lc_cons (nin_lend TPlaces.lcM (by first | exact ok99 | exact ok99.trans (marksN_len _ _).symm) 12 rfl (fun o ho => List.mem_of_mem_drop (i := 15) (show o ∈ nin TPlaces.ow (addMap a p).1.Maps x99.2.2 ++ (nin TPlaces.ow (marksN TPlaces.markE TPlaces.markEN (addMap a p).1.Maps 1) x42.2.2 ++ (nin TPlaces.ow (marksN TPlaces.markE TPlaces.markEN a.Maps 1) x36.2.2)) from by first | exact ho | exact List.mem_append_left _ ho | exact List.mem_append_right _ ho | exact List.mem_append_right _ (List.mem_append_left _ ho) | exact List.mem_append_right _ (List.mem_append_right _ ho)))) (lc_cons (lt_arr (List.mem_of_getElem? (i := 13) rfl) le_refl_e) lc_nil)))) (evlb_cons (evb (ev_tmp rfl)) evlb_nil))) ?_
                    refine sq_plain rfl rfl rfl (w_not rfl (ev_tmp rfl)) ?_
                    refine sq_plain rfl rfl rfl (w_move rfl (ev_tmp rfl)) ?_
                    refine sq_grd rfl rfl (guard_f rfl rfl rfl) (fun hc => w_move rfl (ev_tmp rfl)) ?_
                    refine sq_grd rfl rfl (guard_f rfl rfl rfl) (fun hc => w_move rfl (ev_tmp rfl)) ?_
                    refine sq_grd rfl rfl (guard_f rfl rfl rfl) (fun hc => w_bneq rfl Try.underlying4 (ev_whn rfl hc) (ev_whn rfl hc)) ?_
                    refine sq_plain rfl rfl rfl (w_or rfl (ev_tmp rfl) (evif_w rfl)) ?_
                    refine sq_nil ?_
                    refine awp_cond (ev_tmp rfl) ?_ ?_
                    · intro h110
                      refine awp_seq ?_
                      refine awp_region ?_
                      refine sq_plain rfl rfl rfl (w_assign rfl ev_cb) ?_
                      refine sq_nil ?_
                      refine awp_ret ?_
                      exact retR rfl (rv_tmp' rfl (by first | rfl | (exfalso; simp_all [addMap_eq]; done) | (exfalso; simp_all [addMap_eq]; omega)))
                    · intro h110
                      refine awp_skip ?_
                      refine awp_seq ?_
                      refine awp_region ?_
                      refine sq_plain rfl rfl rfl (w_assign rfl ev_ci) ?_
                      refine sq_nil ?_
                      refine awp_seq ?_
                      refine awp_region ?_
                      refine sq_plain rfl rfl rfl (w_loadA 6 rfl (ev_tmp rfl) rfl Try.isAgg31 Try.sizeOf31 rfl) ?_
                      refine sq_plain rfl rfl rfl (w_move rfl (ev_tmp rfl)) ?_
                      refine sq_plain rfl rfl rfl (w_callB rfl Try.call46 rfl (heldAtlas_spec (addMap a p).1 1 hN) (flat_ik _ _) (evlb_cons (evb_lt (ev_tmp rfl) (lt_agg (lc_cons (nin_lend TPlaces.lcM (by first | exact ok42 | exact ok42.trans (marksN_len _ _).symm) 0 rfl (fun o ho => List.mem_of_mem_drop (i := 15) (show o ∈ nin TPlaces.ow (addMap a p).1.Maps x99.2.2 ++ (nin TPlaces.ow (marksN TPlaces.markE TPlaces.markEN (addMap a p).1.Maps 1) x42.2.2 ++ (nin TPlaces.ow (marksN TPlaces.markE TPlaces.markEN a.Maps 1) x36.2.2)) from by first | exact ho | exact List.mem_append_left _ ho | exact List.mem_append_right _ ho | exact List.mem_append_right _ (List.mem_append_left _ ho) | exact List.mem_append_right _ (List.mem_append_right _ ho)))) (lc_cons (lt_arr (List.mem_of_getElem? (i := 1) rfl) le_refl_e) lc_nil)))) (evlb_cons (evb (ev_tmp rfl)) evlb_nil))) ?_
                      refine sq_plain rfl rfl rfl (w_assign rfl (ev_tmp rfl)) ?_
                      refine sq_nil ?_
                      refine awp_seq ?_
                      refine awp_seq ?_
                      refine awp_region ?_
                      refine sq_plain rfl rfl rfl (w_move rfl (ev_tmp rfl)) ?_
                      refine sq_plain rfl rfl rfl (w_lss rfl (ev_tmp rfl) ev_ci) ?_
                      refine sq_nil ?_
                      refine awp_cond (ev_tmp rfl) ?_ ?_
                      · intro h115
                        have k115 := of_decide_eq_true h115; try simp only [List.length_map] at k115
                        refine awp_seq ?_
                        refine awp_region ?_
                        refine sq_plain rfl rfl rfl (w_assign rfl ev_cb) ?_
                        refine sq_nil ?_
                        refine awp_ret ?_
                        exact retR rfl (rv_tmp' rfl (by first | rfl | (exfalso; simp_all [addMap_eq]; done) | (exfalso; simp_all [addMap_eq]; omega)))
                      · intro h115
                        have k115 := of_decide_eq_false h115; try simp only [List.length_map] at k115
                        refine awp_skip ?_
                        refine awp_seq ?_
                        refine awp_seq ?_
                        refine awp_region ?_
                        refine sq_plain rfl rfl rfl (w_move rfl (ev_tmp rfl)) ?_
                        refine sq_plain rfl rfl rfl (w_move rfl (ev_tmp rfl)) ?_
                        refine sq_plain rfl rfl rfl (w_neq rfl (ev_tmp rfl) (ev_tmp rfl)) ?_
                        refine sq_nil ?_
                        refine awp_cond (ev_tmp rfl) ?_ ?_
                        · intro h118
                          have k118 := ne_of_bne h118; try simp only [List.length_map] at k118
                          refine awp_seq ?_
                          refine awp_region ?_
                          refine sq_plain rfl rfl rfl (w_assign rfl ev_cb) ?_
                          refine sq_nil ?_
                          refine awp_ret ?_
                          exact retR rfl (rv_tmp' rfl (by first | rfl | (exfalso; simp_all [addMap_eq]; done) | (exfalso; simp_all [addMap_eq]; omega)))
                        · intro h118
                          have k118 := eq_of_bne_false h118; try simp only [List.length_map] at k118
                          refine awp_skip ?_
                          refine awp_seq ?_
                          refine awp_region ?_
                          refine sq_plain rfl rfl rfl (w_assign rfl ev_cb) ?_
                          refine sq_nil ?_
                          refine awp_ret ?_
                          exact retR rfl (rv_tmp' rfl (by first | rfl | (exfalso; simp_all [addMap_eq]; done) | (exfalso; simp_all [addMap_eq]; omega)))
                  · refine eff_s rfl rfl rfl (opE_mid 12 <| opE_alloc rfl Try.zeroValue31 rfl) (fun a _ => (by first | exact invx_mk rfl | exact invx_mk (List.append_assoc _ _ _) | exact invx_all)) ?_
                    intro b15 _
                    refine bt_e1 ?_
                    refine eff_s rfl rfl rfl (opE_midT 13 2 (fun zz => nin TPlaces.ow (addMap a p).1.Maps zz.2.2 ++ (nin TPlaces.ow (marksN TPlaces.markE TPlaces.markEN (addMap a p).1.Maps 1) x42.2.2 ++ (nin TPlaces.ow (marksN TPlaces.markE TPlaces.markEN a.Maps 1) x36.2.2))) (fun zz => List.Perm.refl _) (opE_call [] rfl Try.call50 rfl (addMap_own a p hs hp) (evl_cons (ev_tmp rfl) (evl_cons (ev_tmp rfl) evl_nil)) rfl)) (fun a _ => (by first | exact invx_mk rfl | exact invx_mk (List.append_assoc _ _ _) | exact invx_all)) ?_
                    intro x99 ok99
                    refine bt_plain rfl rfl rfl (fun ext => w_move rfl (ev_tmp rfl)) ?_
                    refine bt_plain rfl rfl rfl (fun ext => w_extract rfl (ev_tmp rfl) rfl) ?_
                    refine bt_plain rfl rfl rfl (fun ext => w_extract rfl (ev_tmp rfl) rfl) ?_
                    refine bt_e1 ?_
                    refine eff_s0 rfl rfl rfl (opE_storeB0 12 rfl rfl (ev_tmp rfl) (ev_tmp rfl) (as_agg _) rfl Try.sizeOf31 rfl) (fun a _ => (by first | exact invx_mk rfl | exact invx_mk (List.append_assoc _ _ _) | exact invx_all)) ?_
                    intro _ _
                    refine bt_nil ?_
                    refine sq_plain rfl rfl rfl (w_assign rfl (ev_tmp rfl)) ?_
                    refine sq_nil ?_
                    refine awp_seq ?_
                    refine awp_seq ?_
                    refine awp_own (by first | (simp only [TAtlas.ow, TPlaces.ow, pick, List.eraseIdx_cons_zero, List.eraseIdx_cons_succ, List.set_cons_zero, List.set_cons_succ, List.cons_append, List.nil_append, List.getElem?_cons_zero, List.getElem?_cons_succ, List.append_nil, List.take_succ_cons, List.take_zero, List.drop_succ_cons, List.drop_zero]; exact rfl) | exact rfl) ?_
                    refine awp_region ?_
                    refine sq_plain rfl rfl rfl (w_loadA 12 rfl (ev_tmp rfl) rfl Try.isAgg31 Try.sizeOf31 rfl) ?_
                    refine sq_plain rfl rfl rfl (w_loadA 11 rfl (ev_tmp rfl) rfl Try.isAgg31 Try.sizeOf31 rfl) ?_
                    refine sq_plain rfl rfl rfl (w_callB rfl Try.call20 rfl (eqAtlas_spec _ _) (flat_bool _) (evlb_cons (evb_lt (ev_tmp rfl) (lt_agg (lc_cons (nin_lend TPlaces.lcM (by first | exact ok99 | exact ok99.trans (marksN_len _ _).symm) 13 rfl (fun o ho => List.mem_of_mem_drop (i := 15) (show o ∈ nin TPlaces.ow (addMap a p).1.Maps x99.2.2 ++ (nin TPlaces.ow (marksN TPlaces.markE TPlaces.markEN (addMap a p).1.Maps 1) x42.2.2 ++ (nin TPlaces.ow (marksN TPlaces.markE TPlaces.markEN a.Maps 1) x36.2.2)) from by first | exact ho | exact List.mem_append_left _ ho | exact List.mem_append_right _ ho | exact List.mem_append_right _ (List.mem_append_left _ ho) | exact List.mem_append_right _ (List.mem_append_right _ ho)))) (lc_cons (lt_arr (List.mem_of_getElem? (i := 14) rfl) le_refl_e) lc_nil)))) (evlb_cons (evb (ev_tmp rfl)) evlb_nil))) ?_
                    refine sq_plain rfl rfl rfl (w_not rfl (ev_tmp rfl)) ?_
                    refine sq_plain rfl rfl rfl (w_move rfl (ev_tmp rfl)) ?_
                    refine sq_grd rfl rfl (guard_f rfl rfl rfl) (fun hc => w_move rfl (ev_tmp rfl)) ?_
                    refine sq_grd rfl rfl (guard_f rfl rfl rfl) (fun hc => w_move rfl (ev_tmp rfl)) ?_
                    refine sq_grd rfl rfl (guard_f rfl rfl rfl) (fun hc => w_bneq rfl Try.underlying4 (ev_whn rfl hc) (ev_whn rfl hc)) ?_
                    refine sq_plain rfl rfl rfl (w_or rfl (ev_tmp rfl) (evif_w rfl)) ?_
                    refine sq_nil ?_
                    refine awp_cond (ev_tmp rfl) ?_ ?_
                    · intro h110
                      refine awp_seq ?_
                      refine awp_region ?_
                      refine sq_plain rfl rfl rfl (w_assign rfl ev_cb) ?_
                      refine sq_nil ?_
                      refine awp_ret ?_
                      exact retR rfl (rv_tmp' rfl (by first | rfl | (exfalso; simp_all [addMap_eq]; done) | (exfalso; simp_all [addMap_eq]; omega)))
                    · intro h110
                      refine awp_skip ?_
                      refine awp_seq ?_
                      refine awp_region ?_
                      refine sq_plain rfl rfl rfl (w_assign rfl ev_ci) ?_
                      refine sq_nil ?_
                      refine awp_seq ?_
                      refine awp_region ?_
                      refine sq_plain rfl rfl rfl (w_loadA 6 rfl (ev_tmp rfl) rfl Try.isAgg31 Try.sizeOf31 rfl) ?_
                      refine sq_plain rfl rfl rfl (w_move rfl (ev_tmp rfl)) ?_
                      refine sq_plain rfl rfl rfl (w_callB rfl Try.call46 rfl (heldAtlas_spec (addMap a p).1 1 hN) (flat_ik _ _) (evlb_cons (evb_lt (ev_tmp rfl) (lt_agg (lc_cons (nin_lend TPlaces.lcM (by first | exact ok42 | exact ok42.trans (marksN_len _ _).symm) 0 rfl (fun o ho => List.mem_of_mem_drop (i := 15) (show o ∈ nin TPlaces.ow (addMap a p).1.Maps x99.2.2 ++ (nin TPlaces.ow (marksN TPlaces.markE TPlaces.markEN (addMap a p).1.Maps 1) x42.2.2 ++ (nin TPlaces.ow (marksN TPlaces.markE TPlaces.markEN a.Maps 1) x36.2.2)) from by first | exact ho | exact List.mem_append_left _ ho | exact List.mem_append_right _ ho | exact List.mem_append_right _ (List.mem_append_left _ ho) | exact List.mem_append_right _ (List.mem_append_right _ ho)))) (lc_cons (lt_arr (List.mem_of_getElem? (i := 1) rfl) le_refl_e) lc_nil)))) (evlb_cons (evb (ev_tmp rfl)) evlb_nil))) ?_
                      refine sq_plain rfl rfl rfl (w_assign rfl (ev_tmp rfl)) ?_
                      refine sq_nil ?_
                      refine awp_seq ?_
                      refine awp_seq ?_
                      refine awp_region ?_
                      refine sq_plain rfl rfl rfl (w_move rfl (ev_tmp rfl)) ?_
                      refine sq_plain rfl rfl rfl (w_lss rfl (ev_tmp rfl) ev_ci) ?_
                      refine sq_nil ?_
                      refine awp_cond (ev_tmp rfl) ?_ ?_
                      · intro h115
                        have k115 := of_decide_eq_true h115; try simp only [List.length_map] at k115
                        refine awp_seq ?_
                        refine awp_region ?_
                        refine sq_plain rfl rfl rfl (w_assign rfl ev_cb) ?_
                        refine sq_nil ?_
                        refine awp_ret ?_
                        exact retR rfl (rv_tmp' rfl (by first | rfl | (exfalso; simp_all [addMap_eq]; done) | (exfalso; simp_all [addMap_eq]; omega)))
                      · intro h115
                        have k115 := of_decide_eq_false h115; try simp only [List.length_map] at k115
                        refine awp_skip ?_
                        refine awp_seq ?_
                        refine awp_seq ?_
                        refine awp_region ?_
                        refine sq_plain rfl rfl rfl (w_move rfl (ev_tmp rfl)) ?_
                        refine sq_plain rfl rfl rfl (w_move rfl (ev_tmp rfl)) ?_
                        refine sq_plain rfl rfl rfl (w_neq rfl (ev_tmp rfl) (ev_tmp rfl)) ?_
                        refine sq_nil ?_
                        refine awp_cond (ev_tmp rfl) ?_ ?_
                        · intro h118
                          have k118 := ne_of_bne h118; try simp only [List.length_map] at k118
                          refine awp_seq ?_
                          refine awp_region ?_
                          refine sq_plain rfl rfl rfl (w_assign rfl ev_cb) ?_
                          refine sq_nil ?_
                          refine awp_ret ?_
                          exact retR rfl (rv_tmp' rfl (by first | rfl | (exfalso; simp_all [addMap_eq]; done) | (exfalso; simp_all [addMap_eq]; omega)))
                        · intro h118
                          have k118 := eq_of_bne_false h118; try simp only [List.length_map] at k118
                          refine awp_skip ?_
                          refine awp_seq ?_
                          refine awp_region ?_
                          refine sq_plain rfl rfl rfl (w_assign rfl ev_cb) ?_
                          refine sq_nil ?_
                          refine awp_ret ?_
                          exact retR rfl (rv_tmp' rfl (by first | rfl | (exfalso; simp_all [addMap_eq]; done) | (exfalso; simp_all [addMap_eq]; omega)))
end
theorem opens_Int : Opens Try.prog 3 Int (fun n => [AV.int n]) (fun _ => True) := opens_map id (opens_int Try.underlying3) (fun _ => rfl) (fun _ _ => trivial)
theorem opens_Str : Opens Try.prog 9 Str (fun s => [AV.str s]) (fun s => s.length ≤ 9223372036854775807) := opens_str Try.underlying9
theorem opens_LStr : Opens Try.prog 78 (List Str) (fun l => [AV.list 1 (l.map fun x => [AV.str x])]) (fun l => (∀ x ∈ l, x.length ≤ 9223372036854775807)) := opens_map id (opens_slice (sz := 1) Try.underlying78 (by kernel_rfl) opens_Str (fun _ => rfl)) (fun _ => rfl) (fun _ h => h)
theorem opens_LInt : Opens Try.prog 23 (List Int) (fun l => [AV.list 1 (l.map fun x => [AV.int x])]) (fun l => True) := opens_map id (opens_slice (sz := 1) Try.underlying23 (by kernel_rfl) opens_Int (fun _ => rfl)) (fun _ => rfl) (fun _ _ => trivial)
theorem opens_TPlaces : Opens Try.prog 80 TPlaces TPlaces.cs (fun c => c.ok) := opens_map (fun p => ⟨p.1, p.2.1, p.2.2.1⟩) (opens_struct Try.underlying80 (by kernel_rfl) (opensF_cons (m := 1) opens_Int rfl (by kernel_rfl) (opensF_cons (m := 1) opens_LStr rfl (by kernel_rfl) (opensF_cons (m := 1) opens_LInt rfl (by kernel_rfl) opensF_nil)))) (fun _ => rfl) (fun _ h => by exact h.2.1)
theorem opens_LTPlaces : Opens Try.prog 22 (List TPlaces) (fun l => [AV.list 3 (l.map TPlaces.cs)]) (fun l => (∀ x ∈ l, x.ok)) := opens_map id (opens_slice (sz := 3) Try.underlying22 (by kernel_rfl) opens_TPlaces (fun _ => rfl)) (fun _ => rfl) (fun _ h => h)
theorem opens_TAtlas : Opens Try.prog 25 TAtlas TAtlas.cs (fun c => c.ok) := opens_map (fun p => ⟨p.1, p.2.1⟩) (opens_struct Try.underlying25 (by kernel_rfl) (opensF_cons (m := 1) opens_LTPlaces rfl (by kernel_rfl) (opensF_cons (m := 1) opens_LInt rfl (by kernel_rfl) opensF_nil))) (fun _ => rfl) (fun _ h => by exact h.1)
set_option maxRecDepth 100000 in
theorem fnExactAddMap_lifted (os : Os) (started : os.Started) (H : Type) (enc : TypeId × Value → H) :
    ReturnsInHanded {} Try.checked os 7 .any (Rows.fnExactAddMapSpec.pre6 enc Try.prog Try.f7 Rows.fnExactAddMapRow.domain false) (Rows.fnExactAddMapSpec.post enc Try.prog Try.f7 false true false false) := by
  refine returnsInHanded_of_change (C := Try.checked) (by kernel_rfl) started (by kernel_rfl) Try.func7
    (ChangeSpec.witness6 (enc := enc) (C := Try.checked) false ⟨#[], #[.agg #[.slice none 0 0, .slice none 0 0], .agg #[.int .i64 0, .slice none 0 0, .slice none 0 0]], []⟩ 8 (by kernel_rfl) (by kernel_rfl) (by kernel_rfl) (by kernel_rfl)) ?_
  intro W base args ds gs before hval0 hW hcnd _
  have hval : ∀ (j : Nat) t v, Try.f7.params[j]? = some t → args[j]? = some v → Value.okWide Try.prog W .any base t v := hval0
  have hW2 := hW
  obtain ⟨p, q, hA0, hV, rfl, hfz, hnd⟩ := hW
  have hA : DataW.TrodAll enc Try.prog W 0 (fun _ => true) true Try.f7.params.toList args.toList ds p := hA0
  rw [Try.params7] at hA hval
  obtain ⟨v0, vs0, d0, ds0, p0, q0, hargs, rfl, rfl, h0, r0⟩ := trodAll_cons hA
  obtain ⟨v1, vs1, d1, ds1, p1, q1, rfl, rfl, rfl, h1, r1⟩ := trodAll_cons r0
  obtain ⟨rfl, rfl, rfl⟩ := trodAll_nil r1
  obtain rfl : args = #[v0, v1] := by cases args; simp_all
  obtain ⟨rfl, rfl⟩ := trodVars_none hV
  have lt0 : ∀ x ∈ p0, x.block < W.heap.size := by obtain ⟨m, hm⟩ := h0; exact DataW.trod_lt m _ _ _ hm
  obtain ⟨a0, w0, g0⟩ := arg_agg (opens_TAtlas) Try.underlying25 (hval 0 25 v0 rfl rfl) h0
  have lt1 : ∀ x ∈ p1, x.block < W.heap.size := by obtain ⟨m, hm⟩ := h1; exact DataW.trod_lt m _ _ _ hm
  obtain ⟨a1, w1, g1⟩ := arg_agg (opens_TPlaces) Try.underlying80 (hval 1 80 v1 rfl rfl) h1
  have hcall := law_calls (fnExactAddMap_spec a0 w0 a1 w1) (DenV.cons g0 (DenV.cons g1 (DenV.nil _)))
  clear hA0 hval0
  refine Calls.mono hcall fun e W2 ⟨he, bel⟩ => ?_
  subst he
  exact ⟨_, rfl, _, _, _, [], _, [], hW2, trodAll_mk1 (shut_bool Try.underlying4 _), (trodAll_cons_mk (Below.trod (by kernel_rfl : laidOutB Try.prog = true) (by kernel_rfl) (of_decide_eq_true (by kernel_rfl)) h0 bel lt0) (trodAll_cons_mk (Below.trod (by kernel_rfl : laidOutB Try.prog = true) (by kernel_rfl) (of_decide_eq_true (by kernel_rfl)) h1 bel lt1) trodAll_mk0)), rfl, bel.frame _, fun h => by cases h⟩
theorem fnExactAddMap_and {a b : Bool} (h : a = true) (k : b = true) : (a && b) = true := by rw [h, k]; rfl
set_option maxRecDepth 100000 in
theorem fnExactAddMap_facts : joinedFacts Try.pinned.checked.prog 7 Try.f7 Rows.fnExactAddMapSpec Rows.fnExactAddMapRow = true := by
  unfold joinedFacts
  iterate 18 (rw [Bool.and_assoc])
  refine fnExactAddMap_and ?_ ?_
  · as_aux_lemma => kernel_rfl
  · as_aux_lemma => kernel_rfl
/-- The statement. -/
theorem fnExactAddMap_proved : Rows.FnExactAddMapSaid :=
  OpenClaim.holds_of_wide 7 Try.f7 rfl rfl rfl rfl rfl rfl rfl ⟨rfl, rfl, rfl, rfl, rfl⟩ rfl rfl rfl rfl rfl (by kernel_rfl) Try.func7 fnExactAddMap_facts
    (of_decide_eq_true (by kernel_rfl)) (by unfold Func.isWrapper; first | (rw [if_pos (by decide +kernel)]; kernel_rfl) | (rw [if_neg (by decide +kernel)]; exact ⟨rfl, rfl⟩))
    (fun os started H enc _ => fnExactAddMap_lifted os started H enc)
end Go.Proofs.Ytakmheeaofhflaa
