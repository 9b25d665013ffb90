/- FnExactNewAtlas: for all arguments the program's NewAtlas answers what the reference's answers, in memory of its own. No condition. -/
import Derived.Test.YthioagnjfdffnaaAtlas2W
import Derived.Test.YthioagnjfdffnaaTypesW
import Derived.Test.YthioagnjfdffnaaAvLaw
set_option linter.unusedVariables false
set_option linter.unusedSimpArgs false
set_option maxRecDepth 100000
namespace Go.Proofs.Ythioagnjfdffnaa
open Go Go.AV Go.M
open Go.ChangeShapes Go.WideShapes Go.ChangeAt Go.RowKit
section
attribute [local irreducible] OpW OpA OpS AWP FSpec ESpec GSpec OpE RetOk RetOkG RvDen Le Ev GuardIs SrcIs
theorem newAtlas_len (p : TPlaces) : (newAtlas p).1.Knows.length ≤ 4 ∧ sizeL TPlaces.size (newAtlas p).1.Maps ≤ p.size + 1 := by
  unfold newAtlas; split
  · exact ⟨Nat.zero_le _, Nat.zero_le _⟩
  · exact ⟨Nat.le_refl _, by unfold sizeL; simp; omega⟩
theorem fnExactNewAtlas_spec (p : TPlaces) (hp : p.ok) : FSpec Try.prog 5 [AV.agg p.cs] (AV.bool true) := by
  refine spec_of_awp Try.func5 rfl Try.ntmps5 rfl ?_
  refine awp_seq ?_
  refine awp_region ?_
  refine sq_box rfl rfl rfl rfl (ev_tmp rfl) ?_
  intro b1
  refine sq_plain rfl rfl rfl (w_assign rfl ev_cb) ?_
  refine sq_nil ?_
  refine awp_seq ?_
  refine awp_region ?_
  refine sq_plain rfl rfl rfl (w_assign rfl ev_ci) ?_
  refine sq_nil ?_
  refine awp_seq ?_
  refine awp_region ?_
  refine sq_plain rfl rfl rfl (w_loadA 0 rfl (ev_tmp rfl) rfl Try.isAgg53 Try.sizeOf53 rfl) ?_
  refine sq_plain rfl rfl rfl (w_move rfl (ev_tmp rfl)) ?_
  refine sq_plain rfl rfl rfl (w_call rfl Try.call28 rfl (szPlaces_spec _ _ (by assumption) (by first | omega | ((try simp only [List.length_map, List.length_take, List.length_cons, List.length_nil, chunks_len, szR] at *); omega) | (have hc2 := hc; simp only [Bool.and_eq_true, Bool.or_eq_true, Bool.or_eq_false_iff, Bool.and_eq_false_iff, Bool.not_eq_true', Bool.not_eq_false', decide_eq_true_eq, decide_eq_false_iff_not, beq_iff_eq, bne_iff_ne, List.length_map, List.length_take] at hc2; omega)) (by first | omega | ((try simp only [List.length_map, List.length_take, List.length_cons, List.length_nil, chunks_len, szR] at *); omega) | (have hc2 := hc; simp only [Bool.and_eq_true, Bool.or_eq_true, Bool.or_eq_false_iff, Bool.and_eq_false_iff, Bool.not_eq_true', Bool.not_eq_false', decide_eq_true_eq, decide_eq_false_iff_not, beq_iff_eq, bne_iff_ne, List.length_map, List.length_take] at hc2; omega))) (evl_cons (ev_tmp rfl) (evl_cons (ev_tmp rfl) evl_nil))) ?_
  refine sq_plain rfl rfl rfl (w_assign rfl (ev_tmp rfl)) ?_
  refine sq_nil ?_
  refine awp_seq ?_
  refine awp_seq ?_
  refine awp_region ?_
  refine sq_plain rfl rfl rfl (w_move rfl (ev_tmp rfl)) ?_
  refine sq_plain rfl rfl rfl (w_lss rfl (ev_tmp rfl) ev_ci) ?_
  refine sq_nil ?_
  refine awp_cond (ev_tmp rfl) ?_ ?_
  · intro h18
    have k18 := of_decide_eq_true h18; try simp only [List.length_map] at k18
    refine awp_seq ?_
    refine awp_region ?_
    refine sq_plain rfl rfl rfl (w_assign rfl ev_cb) ?_
    refine sq_nil ?_
    refine awp_ret ?_
    exact retR rfl (rv_tmp' rfl (by first | rfl | (exfalso; simp_all [newAtlas_eq]; done) | (exfalso; simp_all [newAtlas_eq]; omega)))
  · intro h18
    have k18 := of_decide_eq_false h18; try simp only [List.length_map] at k18
    have hs : p.size ≤ 1048576 := by simp only [szR] at k18; omega
    have hl := newAtlas_len p
    have hs' := hs
    unfold TPlaces.size at hs'
    have hcl : p.Cuts.length ≤ 1048576 := Nat.le_trans sizeL_len (show sizeL (fun x : Str => x.length) p.Cuts ≤ 1048576 by omega)
    have hps := placesN_size (newAtlas p).1.Maps 1
    have hpl := countN_le TPlaces.markEN_le (newAtlas p).1.Maps 1
    have hX : 0 ≤ (1 : Int) ∧ p.markN 1 ≤ 4611686018427387904 := ⟨by omega, by unfold TPlaces.markN; omega⟩
    have hX0 : ¬ (p.markN 1 < 0) := by unfold TPlaces.markN; omega
    have hN : 0 ≤ (1 : Int) ∧ (newAtlas p).1.markN 1 ≤ 4611686018427387904 := ⟨by omega, by unfold TAtlas.markN; omega⟩
    have hN0 : ¬ ((newAtlas p).1.markN 1 < 0) := by unfold TAtlas.markN; omega
    refine awp_skip ?_
    refine awp_seq ?_
    refine awp_region ?_
    refine sq_plain rfl rfl rfl (w_loadA 0 rfl (ev_tmp rfl) rfl Try.isAgg53 Try.sizeOf53 rfl) ?_
    refine sq_plain rfl rfl rfl (w_call rfl Try.call30 rfl (toPlaces_spec _ (by first | assumption | omega | (simp only [] at *; omega))) (evl_cons (ev_tmp rfl) evl_nil)) ?_
    refine sq_plain rfl rfl rfl (w_call rfl Try.call29 rfl (newAtlasS_spec _ (by first | assumption | omega)) (evl_cons (ev_tmp rfl) evl_nil)) ?_
    refine sq_plain rfl rfl rfl (w_move rfl (ev_tmp rfl)) ?_
    refine sq_plain rfl rfl rfl (w_extract rfl (ev_tmp rfl) rfl) ?_
    refine sq_plain rfl rfl rfl (w_extract rfl (ev_tmp rfl) rfl) ?_
    refine sq_alloc rfl rfl rfl rfl Try.zeroValue57 rfl ?_
    intro b4
    refine sq_storeB0 0 rfl rfl rfl (ev_tmp rfl) (ev_tmp rfl) (as_agg _) rfl Try.sizeOf57 rfl ?_
    refine sq_plain rfl rfl rfl (w_assign rfl (ev_tmp rfl)) ?_
    refine sq_nil ?_
    refine awp_seq ?_
    refine awp_region ?_
    refine sq_plain rfl rfl rfl (w_loadA 1 rfl (ev_tmp rfl) rfl Try.isAgg53 Try.sizeOf53 rfl) ?_
    refine sq_callG [] rfl rfl rfl rfl Try.call30 rfl (toPlaces_own _ (by assumption)) (evl_cons (ev_tmp rfl) evl_nil) rfl ?_
    intro x26 ok26
    refine sq_alloc rfl rfl rfl rfl Try.zeroValue60 rfl ?_
    intro b6
    refine sq_storeB0 0 rfl rfl rfl (ev_tmp rfl) (ev_tmp rfl) (as_agg _) rfl Try.sizeOf60 rfl ?_
    refine sq_nil ?_
    refine awp_seq ?_
    refine awp_region ?_
    refine sq_plain rfl rfl rfl (w_loadA 0 rfl (ev_tmp rfl) rfl Try.isAgg60 Try.sizeOf60 rfl) ?_
    refine sq_callGB [] rfl rfl rfl rfl Try.call31 rfl (newAtlas_own p hs) rfl (evlb_cons (evb_lt (ev_tmp rfl) (lt_agg (lc_cons lt_refl (lc_cons (lt_arr (List.mem_of_getElem? (i := 1) rfl) le_refl_e) (lc_cons (lt_arr (List.mem_of_getElem? (i := 2) rfl) le_refl_e) lc_nil))))) evlb_nil) (by first | exact flatO_nil | (intro _; exact flatO_nil) | (intro _; first | exact flat_is _ | exact flat_ik _ _ | exact flat_bool _ | exact flat_str _ | exact flat_nils) | (intro _; refine flat_tup ?_; (repeat (first | exact flatl_nil | (refine flatl_cons (by first | (first | exact flat_is _ | exact flat_ik _ _ | exact flat_bool _ | exact flat_str _ | exact flat_nils) | (refine flat_agg ?_; (repeat (first | exact flatl_nil | (refine flatl_cons (by first | exact flat_is _ | exact flat_ik _ _ | exact flat_bool _ | exact flat_str _ | exact flat_nils) ?_))))) ?_))); done) | (intro _; refine flat_agg ?_; (repeat (first | exact flatl_nil | (refine flatl_cons (by first | exact flat_is _ | exact flat_ik _ _ | exact flat_bool _ | exact flat_str _ | exact flat_nils) ?_))); done) | ((repeat (first | exact flatO_nil | (refine flatO_cons (flatO_box ?_) ?_; (repeat (first | exact flatl_nil | (refine flatl_cons (by first | exact flat_is _ | exact flat_ik _ _ | exact flat_bool _ | exact flat_str _ | exact flat_nils) ?_)))) | (refine flatO_cons (flatO_arr ?_) ?_; (repeat (first | exact flate_nil | (refine flate_map (fun _ => ?_); (first | exact TWrite.flat _ | exact TFeedItem.flat _ | exact TIdx.flat _ | exact TVer.flat _ | (repeat (first | exact flatl_nil | (refine flatl_cons (by first | exact flat_is _ | exact flat_ik _ _ | exact flat_bool _ | exact flat_str _ | exact flat_nils) ?_))))) | (refine flate_rep ?_; (first | exact TWrite.flat _ | exact TFeedItem.flat _ | exact TIdx.flat _ | exact TVer.flat _ | (repeat (first | exact flatl_nil | (refine flatl_cons (by first | exact flat_is _ | exact flat_ik _ _ | exact flat_bool _ | exact flat_str _ | exact flat_nils) ?_))))) | (refine flate_cons ?_ ?_; (first | exact TWrite.flat _ | exact TFeedItem.flat _ | exact TIdx.flat _ | exact TVer.flat _ | (repeat (first | exact flatl_nil | (refine flatl_cons (by first | exact flat_is _ | exact flat_ik _ _ | exact flat_bool _ | exact flat_str _ | exact flat_nils) ?_))))) | refine flate_app ?_ ?_))))); done) | (intro _; (repeat (first | exact flatO_nil | (refine flatO_cons (flatO_box ?_) ?_; (repeat (first | exact flatl_nil | (refine flatl_cons (by first | exact flat_is _ | exact flat_ik _ _ | exact flat_bool _ | exact flat_str _ | exact flat_nils) ?_)))) | (refine flatO_cons (flatO_arr ?_) ?_; (repeat (first | exact flate_nil | (refine flate_map (fun _ => ?_); (first | exact TWrite.flat _ | exact TFeedItem.flat _ | exact TIdx.flat _ | exact TVer.flat _ | (repeat (first | exact flatl_nil | (refine flatl_cons (by first | exact flat_is _ | exact flat_ik _ _ | exact flat_bool _ | exact flat_str _ | exact flat_nils) ?_))))) | (refine flate_rep ?_; (first | exact TWrite.flat _ | exact TFeedItem.flat _ | exact TIdx.flat _ | exact TVer.flat _ | (repeat (first | exact flatl_nil | (refine flatl_cons (by first | exact flat_is _ | exact flat_ik _ _ | exact flat_bool _ | exact flat_str _ | exact flat_nils) ?_))))) | (refine flate_cons ?_ ?_; (first | exact TWrite.flat _ | exact TFeedItem.flat _ | exact TIdx.flat _ | exact TVer.flat _ | (repeat (first | exact flatl_nil | (refine flatl_cons (by first | exact flat_is _ | exact flat_ik _ _ | exact flat_bool _ | exact flat_str _ | exact flat_nils) ?_))))) | refine flate_app ?_ ?_))))); done)) (fun x => TAtlas.flatV _ x _) (fun x => TAtlas.flatW _ x) ?_
    intro x29 ok29
    refine sq_le (le_mid (NT := nin TPlaces.ow (newAtlas p).1.Maps x29.2.2) 2 5 (perm_lin)) ?_
    refine sq_plain rfl rfl rfl (w_move rfl (ev_tmp rfl)) ?_
    refine sq_plain rfl rfl rfl (w_extract rfl (ev_tmp rfl) rfl) ?_
    refine sq_plain rfl rfl rfl (w_extract rfl (ev_tmp rfl) rfl) ?_
    refine sq_alloc rfl rfl rfl rfl Try.zeroValue57 rfl ?_
    intro b7
    refine sq_storeB0 0 rfl rfl rfl (ev_tmp rfl) (ev_tmp rfl) (as_agg _) rfl Try.sizeOf57 rfl ?_
    refine sq_plain rfl rfl rfl (w_assign rfl (ev_tmp rfl)) ?_
    refine sq_nil ?_
    refine awp_seq ?_
    refine awp_seq ?_
    refine awp_region ?_
    refine sq_plain rfl rfl rfl (w_loadA 0 rfl (ev_tmp rfl) rfl Try.isAgg57 Try.sizeOf57 rfl) ?_
    refine sq_plain rfl rfl rfl (w_loadA 6 rfl (ev_tmp rfl) rfl Try.isAgg57 Try.sizeOf57 rfl) ?_
    refine sq_plain rfl rfl rfl (w_callB rfl Try.call32 rfl (eqAtlas_spec _ _) (flat_bool _) (evlb_cons (evb_lt (ev_tmp rfl) (lt_agg (lc_cons (nin_lend TPlaces.lcM (by first | exact ok29 | exact ok29.trans (marksN_len _ _).symm) 1 rfl (fun o ho => List.mem_of_mem_drop (i := 8) (show o ∈ nin TPlaces.ow (newAtlas p).1.Maps x29.2.2 from by first | exact ho | exact List.mem_append_left _ ho | exact List.mem_append_right _ ho))) (lc_cons (lt_arr (List.mem_of_getElem? (i := 2) rfl) le_refl_e) lc_nil)))) (evlb_cons (evb (ev_tmp rfl)) evlb_nil))) ?_
    refine sq_plain rfl rfl rfl (w_not rfl (ev_tmp rfl)) ?_
    refine sq_plain rfl rfl rfl (w_move rfl (ev_tmp rfl)) ?_
    refine sq_grd rfl rfl (guard_f rfl rfl rfl) (fun hc => w_move rfl (ev_tmp rfl)) ?_
    refine sq_grd rfl rfl (guard_f rfl rfl rfl) (fun hc => w_move rfl (ev_tmp rfl)) ?_
    refine sq_grd rfl rfl (guard_f rfl rfl rfl) (fun hc => w_bneq rfl Try.underlying4 (ev_whn rfl hc) (ev_whn rfl hc)) ?_
    refine sq_plain rfl rfl rfl (w_or rfl (ev_tmp rfl) (evif_w rfl)) ?_
    refine sq_nil ?_
    refine awp_cond (ev_tmp rfl) ?_ ?_
    · intro h40
      refine awp_seq ?_
      refine awp_region ?_
      refine sq_plain rfl rfl rfl (w_assign rfl ev_cb) ?_
      refine sq_nil ?_
      refine awp_ret ?_
      exact retR rfl (rv_tmp' rfl (by first | rfl | (exfalso; simp_all [newAtlas_eq]; done) | (exfalso; simp_all [newAtlas_eq]; omega)))
    · intro h40
      refine awp_skip ?_
      refine awp_seq ?_
      refine awp_seq ?_
      refine awp_region_any (by kernel_rfl) (by kernel_rfl) rfl ?_
      refine ch_plain rfl rfl (w_loadA 3 rfl (ev_tmp rfl) rfl Try.isAgg60 Try.sizeOf60 rfl) ?_
      refine ch_plain rfl rfl (w_loadA 7 rfl (ev_tmp rfl) rfl Try.isAgg53 Try.sizeOf53 rfl) ?_
      refine ch_plain rfl rfl (w_call rfl Try.call30 rfl (toPlaces_spec _ (by first | assumption | omega | (simp only [] at *; omega))) (evl_cons (ev_tmp rfl) evl_nil)) ?_
      refine ch_plain rfl rfl (w_callB rfl Try.call33 rfl (eqPlaces_spec _ _) (flat_bool _) (evlb_cons (evb_lt (ev_tmp rfl) (lt_agg (lc_cons lt_refl (lc_cons (lt_arr (List.mem_of_getElem? (i := 4) rfl) le_refl_e) (lc_cons (lt_arr (List.mem_of_getElem? (i := 5) rfl) le_refl_e) lc_nil))))) (evlb_cons (evb (ev_tmp rfl)) evlb_nil))) ?_
      refine ch_plain rfl rfl (w_not rfl (ev_tmp rfl)) ?_
      refine ch_nil ?_
      refine awp_cond (ev_tmp rfl) ?_ ?_
      · intro h45
        refine awp_seq ?_
        refine awp_region ?_
        refine sq_plain rfl rfl rfl (w_assign rfl ev_cb) ?_
        refine sq_nil ?_
        refine awp_ret ?_
        exact retR rfl (rv_tmp' rfl (by first | rfl | (exfalso; simp_all [newAtlas_eq]; done) | (exfalso; simp_all [newAtlas_eq]; omega)))
      · intro h45
        refine awp_skip ?_
        refine awp_seq ?_
        refine awp_region ?_
        refine sq_plain rfl rfl rfl (w_assign rfl ev_ci) ?_
        refine sq_nil ?_
        refine awp_seq ?_
        refine awp_region ?_
        refine sq_plain rfl rfl rfl (w_loadA 3 rfl (ev_tmp rfl) rfl Try.isAgg60 Try.sizeOf60 rfl) ?_
        refine sq_plain rfl rfl rfl (w_move rfl (ev_tmp rfl)) ?_
        refine sq_callG [4, 4] rfl rfl rfl rfl Try.call34 rfl (markPlaces_spec _ _ _ (by first | assumption | first | omega | (refine ⟨by omega, ?_⟩; simp only [marks_len] at *; omega))) (evl_cons (ev_tmp rfl) (evl_cons (ev_tmp rfl) evl_nil)) rfl ?_
        intro x48 ok48
        refine sq_plain rfl rfl rfl (w_assign rfl (ev_tmp rfl)) ?_
        refine sq_nil ?_
        refine awp_seq ?_
        refine awp_seq ?_
        refine awp_region ?_
        refine sq_plain rfl rfl rfl (w_move rfl (ev_tmp rfl)) ?_
        refine sq_plain rfl rfl rfl (w_lss rfl (ev_tmp rfl) ev_ci) ?_
        refine sq_plain rfl rfl rfl (w_move rfl (ev_tmp rfl)) ?_
        refine sq_grd rfl rfl (guard_f rfl rfl rfl) (fun hc => w_loadA 2 rfl (ev_tmp rfl) rfl Try.isAgg57 Try.sizeOf57 rfl) ?_
        refine sq_grd rfl rfl (guard_f rfl rfl rfl) (fun hc => w_loadA 6 rfl (ev_tmp rfl) rfl Try.isAgg57 Try.sizeOf57 rfl) ?_
        refine sq_grd rfl rfl (guard_f rfl rfl rfl) (fun hc => w_callB rfl Try.call32 rfl (eqAtlas_spec _ _) (flat_bool _) (evlb_cons (evb_lt (ev_whn rfl hc) (lt_agg (lc_cons (nin_lend TPlaces.lcM (by first | exact ok29 | exact ok29.trans (marksN_len _ _).symm) 3 rfl (fun o ho => List.mem_of_mem_drop (i := 8) (show o ∈ nin TPlaces.ow (newAtlas p).1.Maps x29.2.2 from by first | exact ho | exact List.mem_append_left _ ho | exact List.mem_append_right _ ho))) (lc_cons (lt_arr (List.mem_of_getElem? (i := 4) rfl) le_refl_e) lc_nil)))) (evlb_cons (evb (ev_whn rfl hc)) evlb_nil))) ?_
        refine sq_grd rfl rfl (guard_f rfl rfl rfl) (fun hc => w_not rfl (ev_whn rfl hc)) ?_
        refine sq_plain rfl rfl rfl (w_or rfl (ev_tmp rfl) (evif_w rfl)) ?_
        refine sq_plain rfl rfl rfl (w_move rfl (ev_tmp rfl)) ?_
        refine sq_grd rfl rfl (guard_f rfl rfl rfl) (fun hc => w_move rfl (ev_tmp rfl)) ?_
        refine sq_grd rfl rfl (guard_f rfl rfl rfl) (fun hc => w_move rfl (ev_tmp rfl)) ?_
        refine sq_grd rfl rfl (guard_f rfl rfl rfl) (fun hc => w_bneq rfl Try.underlying4 (ev_whn rfl hc) (ev_whn rfl hc)) ?_
        refine sq_plain rfl rfl rfl (w_or rfl (ev_tmp rfl) (evif_w rfl)) ?_
        refine sq_nil ?_
        refine awp_cond (ev_tmp rfl) ?_ ?_
        · intro h61
          refine awp_seq ?_
          refine awp_region ?_
          refine sq_plain rfl rfl rfl (w_assign rfl ev_cb) ?_
          refine sq_nil ?_
          refine awp_ret ?_
          exact retR rfl (rv_tmp' rfl (by first | rfl | (exfalso; simp_all [newAtlas_eq]; done) | (exfalso; simp_all [newAtlas_eq]; omega)))
        · intro h61
          refine awp_skip ?_
          refine awp_seq ?_
          refine awp_region ?_
          refine sq_plain rfl rfl rfl (w_assign rfl ev_ci) ?_
          refine sq_nil ?_
          refine awp_seq ?_
          refine awp_region ?_
          refine sq_plain rfl rfl rfl (w_loadA 2 rfl (ev_tmp rfl) rfl Try.isAgg57 Try.sizeOf57 rfl) ?_
          refine sq_plain rfl rfl rfl (w_move rfl (ev_tmp rfl)) ?_
          refine sq_callGT [3, 3] 6 2 (nin TPlaces.ow (newAtlas p).1.Maps x29.2.2) ([]) (fun zz => nin TPlaces.ow (marksN TPlaces.markE TPlaces.markEN (newAtlas p).1.Maps 1) x29.2.2) rfl rfl rfl rfl Try.call35 rfl rfl (show List.Perm (nin TPlaces.ow (newAtlas p).1.Maps x29.2.2) ((nin TPlaces.ow (newAtlas p).1.Maps x29.2.2) ++ ([])) from perm_nil) (markAtlas_spec (newAtlas p).1 x29 1 ok29 hN) (evl_cons (ev_tmp rfl) (evl_cons (ev_tmp rfl) evl_nil)) (fun a => perm_lin) ?_
          intro x64 ok64
          refine sq_plain rfl rfl rfl (w_assign rfl (ev_tmp rfl)) ?_
          refine sq_nil ?_
          refine awp_seq ?_
          refine awp_region ?_
          refine sq_plain rfl rfl rfl (w_assign rfl ev_ci) ?_
          refine sq_nil ?_
          refine awp_seq ?_
          refine awp_region ?_
          refine sq_plain rfl rfl rfl (w_loadA 4 rfl (ev_tmp rfl) rfl Try.isAgg57 Try.sizeOf57 rfl) ?_
          refine sq_plain rfl rfl rfl (w_move rfl (ev_tmp rfl)) ?_
          refine sq_plain rfl rfl rfl (w_callB rfl Try.call36 rfl (heldAtlas_spec (newAtlas p).1 1 hN) (flat_ik _ _) (evlb_cons (evb_lt (ev_tmp rfl) (lt_agg (lc_cons (nin_lend TPlaces.lcM (by first | exact ok29 | exact ok29.trans (marksN_len _ _).symm) 0 rfl (fun o ho => List.mem_of_mem_drop (i := 8) (show o ∈ nin TPlaces.ow (marksN TPlaces.markE TPlaces.markEN (newAtlas p).1.Maps 1) x29.2.2 from by first | exact ho | exact List.mem_append_left _ ho | exact List.mem_append_right _ ho))) (lc_cons (lt_arr (List.mem_of_getElem? (i := 1) rfl) le_refl_e) lc_nil)))) (evlb_cons (evb (ev_tmp rfl)) evlb_nil))) ?_
          refine sq_plain rfl rfl rfl (w_assign rfl (ev_tmp rfl)) ?_
          refine sq_nil ?_
          refine awp_seq ?_
          refine awp_seq ?_
          refine awp_region ?_
          refine sq_plain rfl rfl rfl (w_move rfl (ev_tmp rfl)) ?_
          refine sq_plain rfl rfl rfl (w_lss rfl (ev_tmp rfl) ev_ci) ?_
          refine sq_nil ?_
          refine awp_cond (ev_tmp rfl) ?_ ?_
          · intro h69
            have k69 := of_decide_eq_true h69; try simp only [List.length_map] at k69
            refine awp_seq ?_
            refine awp_region ?_
            refine sq_plain rfl rfl rfl (w_assign rfl ev_cb) ?_
            refine sq_nil ?_
            refine awp_ret ?_
            exact retR rfl (rv_tmp' rfl (by first | rfl | (exfalso; simp_all [newAtlas_eq]; done) | (exfalso; simp_all [newAtlas_eq]; omega)))
          · intro h69
            have k69 := of_decide_eq_false h69; try simp only [List.length_map] at k69
            refine awp_skip ?_
            refine awp_seq ?_
            refine awp_seq ?_
            refine awp_region ?_
            refine sq_plain rfl rfl rfl (w_move rfl (ev_tmp rfl)) ?_
            refine sq_plain rfl rfl rfl (w_move rfl (ev_tmp rfl)) ?_
            refine sq_plain rfl rfl rfl (w_neq rfl (ev_tmp rfl) (ev_tmp rfl)) ?_
            refine sq_nil ?_
            refine awp_cond (ev_tmp rfl) ?_ ?_
            · intro h72
              have k72 := ne_of_bne h72; try simp only [List.length_map] at k72
              refine awp_seq ?_
              refine awp_region ?_
              refine sq_plain rfl rfl rfl (w_assign rfl ev_cb) ?_
              refine sq_nil ?_
              refine awp_ret ?_
              exact retR rfl (rv_tmp' rfl (by first | rfl | (exfalso; simp_all [newAtlas_eq]; done) | (exfalso; simp_all [newAtlas_eq]; omega)))
            · intro h72
              have k72 := eq_of_bne_false h72; try simp only [List.length_map] at k72
              refine awp_skip ?_
              refine awp_seq ?_
              refine awp_region ?_
              refine sq_plain rfl rfl rfl (w_loadA 7 rfl (ev_tmp rfl) rfl Try.isAgg53 Try.sizeOf53 rfl) ?_
              refine sq_plain rfl rfl rfl (w_call rfl Try.call30 rfl (toPlaces_spec _ (by first | assumption | omega | (simp only [] at *; omega))) (evl_cons (ev_tmp rfl) evl_nil)) ?_
              refine sq_callGT [] 8 2 ([]) (nin TPlaces.ow (marksN TPlaces.markE TPlaces.markEN (newAtlas p).1.Maps 1) x29.2.2) (fun zz => nin TPlaces.ow (newAtlas p).1.Maps zz.2.2 ++ (nin TPlaces.ow (marksN TPlaces.markE TPlaces.markEN (newAtlas p).1.Maps 1) x29.2.2)) rfl rfl rfl rfl Try.call31 rfl rfl (show List.Perm (nin TPlaces.ow (marksN TPlaces.markE TPlaces.markEN (newAtlas p).1.Maps 1) x29.2.2) (([]) ++ (nin TPlaces.ow (marksN TPlaces.markE TPlaces.markEN (newAtlas p).1.Maps 1) x29.2.2)) from List.Perm.refl _) (newAtlas_own p hs) (evl_cons (ev_tmp rfl) evl_nil) (fun a => List.Perm.refl _) ?_
              intro x76 ok76
              refine sq_plain rfl rfl rfl (w_move rfl (ev_tmp rfl)) ?_
              refine sq_plain rfl rfl rfl (w_extract rfl (ev_tmp rfl) rfl) ?_
              refine sq_plain rfl rfl rfl (w_extract rfl (ev_tmp rfl) rfl) ?_
              refine sq_alloc rfl rfl rfl rfl Try.zeroValue57 rfl ?_
              intro b12
              refine sq_storeB0 0 rfl rfl rfl (ev_tmp rfl) (ev_tmp rfl) (as_agg _) rfl Try.sizeOf57 rfl ?_
              refine sq_plain rfl rfl rfl (w_assign rfl (ev_tmp rfl)) ?_
              refine sq_nil ?_
              refine awp_seq ?_
              refine awp_seq ?_
              refine awp_region ?_
              refine sq_plain rfl rfl rfl (w_loadA 0 rfl (ev_tmp rfl) rfl Try.isAgg57 Try.sizeOf57 rfl) ?_
              refine sq_plain rfl rfl rfl (w_loadA 9 rfl (ev_tmp rfl) rfl Try.isAgg57 Try.sizeOf57 rfl) ?_
              refine sq_plain rfl rfl rfl (w_callB rfl Try.call32 rfl (eqAtlas_spec _ _) (flat_bool _) (evlb_cons (evb_lt (ev_tmp rfl) (lt_agg (lc_cons (nin_lend TPlaces.lcM (by first | exact ok76 | exact ok76.trans (marksN_len _ _).symm) 1 rfl (fun o ho => List.mem_of_mem_drop (i := 11) (show o ∈ nin TPlaces.ow (newAtlas p).1.Maps x76.2.2 ++ nin TPlaces.ow (marksN TPlaces.markE TPlaces.markEN (newAtlas p).1.Maps 1) x29.2.2 from by first | exact ho | exact List.mem_append_left _ ho | exact List.mem_append_right _ ho))) (lc_cons (lt_arr (List.mem_of_getElem? (i := 2) rfl) le_refl_e) lc_nil)))) (evlb_cons (evb (ev_tmp rfl)) evlb_nil))) ?_
              refine sq_plain rfl rfl rfl (w_not rfl (ev_tmp rfl)) ?_
              refine sq_plain rfl rfl rfl (w_move rfl (ev_tmp rfl)) ?_
              refine sq_grd rfl rfl (guard_f rfl rfl rfl) (fun hc => w_move rfl (ev_tmp rfl)) ?_
              refine sq_grd rfl rfl (guard_f rfl rfl rfl) (fun hc => w_move rfl (ev_tmp rfl)) ?_
              refine sq_grd rfl rfl (guard_f rfl rfl rfl) (fun hc => w_bneq rfl Try.underlying4 (ev_whn rfl hc) (ev_whn rfl hc)) ?_
              refine sq_plain rfl rfl rfl (w_or rfl (ev_tmp rfl) (evif_w rfl)) ?_
              refine sq_nil ?_
              refine awp_cond (ev_tmp rfl) ?_ ?_
              · intro h87
                refine awp_seq ?_
                refine awp_region ?_
                refine sq_plain rfl rfl rfl (w_assign rfl ev_cb) ?_
                refine sq_nil ?_
                refine awp_ret ?_
                exact retR rfl (rv_tmp' rfl (by first | rfl | (exfalso; simp_all [newAtlas_eq]; done) | (exfalso; simp_all [newAtlas_eq]; omega)))
              · intro h87
                refine awp_skip ?_
                refine awp_seq ?_
                refine awp_region ?_
                refine sq_plain rfl rfl rfl (w_assign rfl ev_ci) ?_
                refine sq_nil ?_
                refine awp_seq ?_
                refine awp_region ?_
                refine sq_plain rfl rfl rfl (w_loadA 7 rfl (ev_tmp rfl) rfl Try.isAgg57 Try.sizeOf57 rfl) ?_
                refine sq_plain rfl rfl rfl (w_move rfl (ev_tmp rfl)) ?_
                refine sq_plain rfl rfl rfl (w_callB rfl Try.call36 rfl (heldAtlas_spec (newAtlas p).1 1 hN) (flat_ik _ _) (evlb_cons (evb_lt (ev_tmp rfl) (lt_agg (lc_cons (nin_lend TPlaces.lcM (by first | exact ok29 | exact ok29.trans (marksN_len _ _).symm) 3 rfl (fun o ho => List.mem_of_mem_drop (i := 11) (show o ∈ nin TPlaces.ow (newAtlas p).1.Maps x76.2.2 ++ nin TPlaces.ow (marksN TPlaces.markE TPlaces.markEN (newAtlas p).1.Maps 1) x29.2.2 from by first | exact ho | exact List.mem_append_left _ ho | exact List.mem_append_right _ ho))) (lc_cons (lt_arr (List.mem_of_getElem? (i := 4) rfl) le_refl_e) lc_nil)))) (evlb_cons (evb (ev_tmp rfl)) evlb_nil))) ?_
                refine sq_plain rfl rfl rfl (w_assign rfl (ev_tmp rfl)) ?_
                refine sq_nil ?_
                refine awp_seq ?_
                refine awp_seq ?_
                refine awp_region ?_
                refine sq_plain rfl rfl rfl (w_move rfl (ev_tmp rfl)) ?_
                refine sq_plain rfl rfl rfl (w_lss rfl (ev_tmp rfl) ev_ci) ?_
                refine sq_nil ?_
                refine awp_cond (ev_tmp rfl) ?_ ?_
                · intro h92
                  have k92 := of_decide_eq_true h92; try simp only [List.length_map] at k92
                  refine awp_seq ?_
                  refine awp_region ?_
                  refine sq_plain rfl rfl rfl (w_assign rfl ev_cb) ?_
                  refine sq_nil ?_
                  refine awp_ret ?_
                  exact retR rfl (rv_tmp' rfl (by first | rfl | (exfalso; simp_all [newAtlas_eq]; done) | (exfalso; simp_all [newAtlas_eq]; omega)))
                · intro h92
                  have k92 := of_decide_eq_false h92; try simp only [List.length_map] at k92
                  refine awp_skip ?_
                  refine awp_seq ?_
                  refine awp_seq ?_
                  refine awp_region ?_
                  refine sq_plain rfl rfl rfl (w_move rfl (ev_tmp rfl)) ?_
                  refine sq_plain rfl rfl rfl (w_move rfl (ev_tmp rfl)) ?_
                  refine sq_plain rfl rfl rfl (w_neq rfl (ev_tmp rfl) (ev_tmp rfl)) ?_
                  refine sq_nil ?_
                  refine awp_cond (ev_tmp rfl) ?_ ?_
                  · intro h95
                    have k95 := ne_of_bne h95; try simp only [List.length_map] at k95
                    refine awp_seq ?_
                    refine awp_region ?_
                    refine sq_plain rfl rfl rfl (w_assign rfl ev_cb) ?_
                    refine sq_nil ?_
                    refine awp_ret ?_
                    exact retR rfl (rv_tmp' rfl (by first | rfl | (exfalso; simp_all [newAtlas_eq]; done) | (exfalso; simp_all [newAtlas_eq]; omega)))
                  · intro h95
                    have k95 := eq_of_bne_false h95; try simp only [List.length_map] at k95
                    refine awp_skip ?_
                    refine awp_seq ?_
                    refine awp_region ?_
                    refine sq_plain rfl rfl rfl (w_assign rfl ev_cb) ?_
                    refine sq_nil ?_
                    refine awp_ret ?_
                    exact retR rfl (rv_tmp' rfl (by first | rfl | (exfalso; simp_all [newAtlas_eq]; done) | (exfalso; simp_all [newAtlas_eq]; omega)))
end
theorem opens_Int : Opens Try.prog 3 Int (fun n => [AV.int n]) (fun _ => True) := opens_map id (opens_int Try.underlying3) (fun _ => rfl) (fun _ _ => trivial)
theorem opens_Str : Opens Try.prog 9 Str (fun s => [AV.str s]) (fun s => s.length ≤ 9223372036854775807) := opens_str Try.underlying9
theorem opens_LStr : Opens Try.prog 50 (List Str) (fun l => [AV.list 1 (l.map fun x => [AV.str x])]) (fun l => (∀ x ∈ l, x.length ≤ 9223372036854775807)) := opens_map id (opens_slice (sz := 1) Try.underlying50 (by kernel_rfl) opens_Str (fun _ => rfl)) (fun _ => rfl) (fun _ h => h)
theorem opens_LInt : Opens Try.prog 51 (List Int) (fun l => [AV.list 1 (l.map fun x => [AV.int x])]) (fun l => True) := opens_map id (opens_slice (sz := 1) Try.underlying51 (by kernel_rfl) opens_Int (fun _ => rfl)) (fun _ => rfl) (fun _ _ => trivial)
theorem opens_TPlaces : Opens Try.prog 53 TPlaces TPlaces.cs (fun c => c.ok) := opens_map (fun p => ⟨p.1, p.2.1, p.2.2.1⟩) (opens_struct Try.underlying53 (by kernel_rfl) (opensF_cons (m := 1) opens_Int rfl (by kernel_rfl) (opensF_cons (m := 1) opens_LStr rfl (by kernel_rfl) (opensF_cons (m := 1) opens_LInt rfl (by kernel_rfl) opensF_nil)))) (fun _ => rfl) (fun _ h => by exact h.2.1)
set_option maxRecDepth 100000 in
theorem fnExactNewAtlas_lifted (os : Os) (started : os.Started) (H : Type) (enc : TypeId × Value → H) :
    ReturnsInHanded {} Try.checked os 5 .any (Rows.fnExactNewAtlasSpec.pre6 enc Try.prog Try.f5 Rows.fnExactNewAtlasRow.domain false) (Rows.fnExactNewAtlasSpec.post enc Try.prog Try.f5 false true false false) := by
  refine returnsInHanded_of_change (C := Try.checked) (by kernel_rfl) started (by kernel_rfl) Try.func5
    (ChangeSpec.witness6 (enc := enc) (C := Try.checked) false ⟨#[], #[.agg #[.int .i64 0, .slice none 0 0, .slice none 0 0]], []⟩ 8 (by kernel_rfl) (by kernel_rfl) (by kernel_rfl) (by kernel_rfl)) ?_
  intro W base args ds gs before hval0 hW hcnd _
  have hval : ∀ (j : Nat) t v, Try.f5.params[j]? = some t → args[j]? = some v → Value.okWide Try.prog W .any base t v := hval0
  have hW2 := hW
  obtain ⟨p, q, hA0, hV, rfl, hfz, hnd⟩ := hW
  have hA : DataW.TrodAll enc Try.prog W 0 (fun _ => true) true Try.f5.params.toList args.toList ds p := hA0
  rw [Try.params5] at hA hval
  obtain ⟨v0, vs0, d0, ds0, p0, q0, hargs, rfl, rfl, h0, r0⟩ := trodAll_cons hA
  obtain ⟨rfl, rfl, rfl⟩ := trodAll_nil r0
  obtain rfl : args = #[v0] := by cases args; simp_all
  obtain ⟨rfl, rfl⟩ := trodVars_none hV
  have lt0 : ∀ x ∈ p0, x.block < W.heap.size := by obtain ⟨m, hm⟩ := h0; exact DataW.trod_lt m _ _ _ hm
  obtain ⟨a0, w0, g0⟩ := arg_agg (opens_TPlaces) Try.underlying53 (hval 0 53 v0 rfl rfl) h0
  have hcall := law_calls (fnExactNewAtlas_spec a0 w0) (DenV.cons g0 (DenV.nil _))
  clear hA0 hval0
  refine Calls.mono hcall fun e W2 ⟨he, bel⟩ => ?_
  subst he
  exact ⟨_, rfl, _, _, _, [], _, [], hW2, trodAll_mk1 (shut_bool Try.underlying4 _), (trodAll_cons_mk (Below.trod (by kernel_rfl : laidOutB Try.prog = true) (by kernel_rfl) (of_decide_eq_true (by kernel_rfl)) h0 bel lt0) trodAll_mk0), rfl, bel.frame _, fun h => by cases h⟩
/-- The statement. -/
theorem fnExactNewAtlas_proved : Rows.FnExactNewAtlasSaid :=
  OpenClaim.holds_of_wide 5 Try.f5 rfl rfl rfl rfl rfl rfl rfl ⟨rfl, rfl, rfl, rfl, rfl⟩ rfl rfl rfl rfl rfl (by kernel_rfl) Try.func5 (by kernel_rfl)
    (of_decide_eq_true (by kernel_rfl)) (by unfold Func.isWrapper; first | (rw [if_pos (by decide +kernel)]; kernel_rfl) | (rw [if_neg (by decide +kernel)]; exact ⟨rfl, rfl⟩))
    (fun os started H enc _ => fnExactNewAtlas_lifted os started H enc)
end Go.Proofs.Ythioagnjfdffnaa
