/- Walks: reading a migration, acts. -/
import Derived.Test.YtdbmaekdejhobaaMove3M
import Derived.Test.YtdbmaekdejhobaaMove2W
set_option linter.unusedVariables false
set_option linter.unusedSimpArgs false
set_option maxRecDepth 100000
namespace Go.Proofs.Ytdbmaekdejhobaa
open Go Go.AV Go.M
attribute [local irreducible] OpW OpA OpS AWP FSpec ESpec RetOk RvDen Le Ev GuardIs
theorem findWrite1_spec (w : TWrite) (k : Str) : FSpec Try.prog 207 [AV.agg w.cs, AV.str k] (AV.int (wCmp k w)) := by
  refine spec_of_awp Try.func207 rfl Try.ntmps207 rfl ?_
  refine awp_seq ?_
  refine awp_region ?_
  refine sq_box rfl rfl rfl rfl (ev_tmp rfl) ?_
  intro b2
  refine sq_plain rfl rfl rfl (w_assign rfl ev_ci) ?_
  refine sq_nil ?_
  refine awp_seq ?_
  refine awp_region ?_
  refine sq_plain rfl rfl rfl (w_fldBn 0 rfl Try.underlying37 rfl Try.sizeOf9 (ev_tmp rfl) rfl) ?_
  refine sq_plain rfl rfl rfl (w_loadB1 0 rfl (ev_tmp rfl) rfl Try.isAgg9 rfl) ?_
  refine sq_plain rfl rfl rfl (w_move rfl (ev_tmp rfl)) ?_
  refine sq_plain rfl rfl rfl (w_call rfl Try.call208 rfl (cmpStr_spec _ _) (evl_cons (ev_tmp rfl) (evl_cons (ev_tmp rfl) evl_nil))) ?_
  refine sq_plain rfl rfl rfl (w_assign rfl (ev_tmp rfl)) ?_
  refine sq_nil ?_
  refine awp_ret ?_
  exact retR rfl (rv_tmp' rfl (by first | rfl | (refine congrArg AV.bool ?_; simp_all; done)))
theorem findWrite_spec (l : List TWrite) (k : Str) (hs : l.length ≤ 4611686018427387903) : FSpec Try.prog 153 [AV.list 3 (l.map TWrite.cs), AV.str k] (AV.tup [AV.int (wPos l k), AV.bool (wHas l k)]) := by
  refine spec_of_awp Try.func153 rfl Try.ntmps153 rfl ?_
  refine awp_seq ?_
  refine awp_region ?_
  refine sq_plain rfl rfl rfl (w_assign rfl ev_ci) ?_
  refine sq_plain rfl rfl rfl (w_assign rfl ev_cb) ?_
  refine sq_nil ?_
  refine awp_seq ?_
  refine awp_region ?_
  refine sq_plain rfl rfl rfl (w_move rfl (ev_tmp rfl)) ?_
  refine sq_plain rfl rfl rfl (w_move rfl (ev_tmp rfl)) ?_
  refine sq_plain rfl rfl rfl (w_call rfl Try.call206 rfl (binSearchWriteStr_spec _ _ _ (by first | (intros; trivial) | assumption | (intros; first | trivial | (simp_all; done))) _ (by omega)) (evl_cons (ev_tmp rfl) (evl_cons (ev_tmp rfl) (evl_cons (ev_fun2 Try.call207 (fun w k (_ : True) => findWrite1_spec w k)) evl_nil)))) ?_
  refine sq_plain rfl rfl rfl (w_extract rfl (ev_tmp rfl) rfl) ?_
  refine sq_plain rfl rfl rfl (w_extract rfl (ev_tmp rfl) rfl) ?_
  refine sq_plain rfl rfl rfl (w_assign rfl (ev_tmp rfl)) ?_
  refine sq_plain rfl rfl rfl (w_assign rfl (ev_tmp rfl)) ?_
  refine sq_nil ?_
  refine awp_ret ?_
  exact retN rfl (by decide) (rv_cons (rv_tmp' rfl (by first | rfl | (refine congrArg AV.bool ?_; simp_all; done))) (rv_cons (rv_tmp' rfl (by first | rfl | (refine congrArg AV.bool ?_; simp_all; done))) rv_nil))
theorem gotOf_spec (l : List TWrite) (k : Str) (hs : l.length ≤ 4611686018427387903) : FSpec Try.prog 75 [AV.list 3 (l.map TWrite.cs), AV.str k] (AV.agg (gotOf l k).cs) := by
  refine spec_of_awp Try.func75 rfl Try.ntmps75 rfl ?_
  refine awp_seq ?_
  refine awp_region ?_
  refine sq_alloc rfl rfl rfl rfl Try.zeroValue120 rfl ?_
  intro b4
  refine sq_nil ?_
  refine awp_seq ?_
  refine awp_region ?_
  refine sq_plain rfl rfl rfl (w_move rfl (ev_tmp rfl)) ?_
  refine sq_plain rfl rfl rfl (w_move rfl (ev_tmp rfl)) ?_
  refine sq_plain rfl rfl rfl (w_call rfl Try.call153 rfl (findWrite_spec _ _ (by omega)) (evl_cons (ev_tmp rfl) (evl_cons (ev_tmp rfl) evl_nil))) ?_
  refine sq_plain rfl rfl rfl (w_move rfl (ev_tmp rfl)) ?_
  refine sq_plain rfl rfl rfl (w_extract rfl (ev_tmp rfl) rfl) ?_
  refine sq_plain rfl rfl rfl (w_extract rfl (ev_tmp rfl) rfl) ?_
  refine sq_plain rfl rfl rfl (w_assign rfl (ev_tmp rfl)) ?_
  refine sq_plain rfl rfl rfl (w_assign rfl (ev_tmp rfl)) ?_
  refine sq_nil ?_
  refine awp_seq ?_
  refine awp_seq ?_
  refine awp_region ?_
  refine sq_plain rfl rfl rfl (w_move rfl (ev_tmp rfl)) ?_
  refine sq_plain rfl rfl rfl (w_not rfl (ev_tmp rfl)) ?_
  refine sq_nil ?_
  refine awp_cond (ev_tmp rfl) ?_ ?_
  · intro h14
    have hn : wHas l k = false := by simpa using h14
    have he : gotOf l k = ⟨k, [], false⟩ := by unfold gotOf; rw [hn]; rfl
    rw [he]
    refine awp_seq ?_
    refine awp_region ?_
    refine sq_plain rfl rfl rfl (w_move rfl (ev_tmp rfl)) ?_
    refine sq_plain rfl rfl rfl (w_build (places := #[(0, 1), (1, 1), (2, 1)]) rfl Try.underlying120 Try.zeroValue120 (fun w => by kernel_rfl) rfl (bp_cons (ev_tmp rfl) (as_str _) bp_nil) rfl) ?_
    refine sq_storeB0 0 rfl rfl rfl (ev_tmp rfl) (ev_tmp rfl) (as_agg _) rfl Try.sizeOf120 rfl ?_
    refine sq_nil ?_
    refine awp_ret ?_
    exact retR rfl (rv_cell (ys := _) 0 rfl rfl Try.isAgg120 Try.sizeOf120 rfl)
  · intro h14
    have hn : wHas l k = true := by simpa using h14
    obtain ⟨w, hw⟩ : ∃ w, l[wPos l k]? = some w := by unfold wHas bsAt at hn; cases hp : l[wPos l k]? with | none => (rw [hp] at hn; cases hn) | some w => exact ⟨w, rfl⟩
    have he : gotOf l k = ⟨k, w.Val, true⟩ := by unfold gotOf; rw [hn, if_pos rfl, hw]
    rw [he]
    refine awp_skip ?_
    refine awp_seq ?_
    refine awp_region ?_
    refine sq_plain rfl rfl rfl (w_move rfl (ev_tmp rfl)) ?_
    refine sq_plain rfl rfl rfl (w_move rfl (ev_tmp rfl)) ?_
    refine sq_plain rfl rfl rfl (w_move rfl (ev_tmp rfl)) ?_
    refine sq_plain rfl rfl rfl (w_idxm rfl Try.underlying23 Try.sizeOf37 (ev_tmp rfl) (ev_tmp rfl) hw rfl) ?_
    refine sq_plain rfl rfl rfl (w_fldE rfl Try.underlying37 rfl Try.sizeOf9 (ev_tmp rfl) rfl) ?_
    refine sq_plain rfl rfl rfl (w_loadE1 rfl (ev_tmp rfl) Try.isAgg9 rfl) ?_
    refine sq_plain rfl rfl rfl (w_build (places := #[(0, 1), (1, 1), (2, 1)]) rfl Try.underlying120 Try.zeroValue120 (fun w => by kernel_rfl) rfl (bp_cons (ev_tmp rfl) (as_str _) (bp_cons (ev_tmp rfl) (as_str _) (bp_cons ev_cb (as_bool _) bp_nil))) rfl) ?_
    refine sq_storeB0 0 rfl rfl rfl (ev_tmp rfl) (ev_tmp rfl) (as_agg _) rfl Try.sizeOf120 rfl ?_
    refine sq_nil ?_
    refine awp_ret ?_
    exact retR rfl (rv_cell (ys := _) 0 rfl rfl Try.isAgg120 Try.sizeOf120 rfl)
theorem readMove_spec (m : TMove) (k : Str) (hs : m.size ≤ 1048576) (hk : k.length ≤ 4611686018427387904) : FSpec Try.prog 12 [AV.agg m.cs, AV.str k] (AV.tup [AV.str (readMove m k).1, AV.bool (readMove m k).2.1, AV.int (readMove m k).2.2.1, AV.bool (readMove m k).2.2.2]) := by
  have hs' := hs; unfold TMove.size at hs'
  have hf : m.From.length ≤ 1048576 := Nat.le_trans sizeL_len (show sizeL TWrite.size m.From ≤ 1048576 by omega)
  have ht : m.To.length ≤ 1048576 := Nat.le_trans sizeL_len (show sizeL TWrite.size m.To ≤ 1048576 by omega)
  refine spec_of_awp Try.func12 rfl Try.ntmps12 rfl ?_
  refine awp_seq ?_
  refine awp_region ?_
  refine sq_box rfl rfl rfl rfl (ev_tmp rfl) ?_
  intro b2
  refine sq_plain rfl rfl rfl (w_assign rfl (ev_cs' (l := []) rfl)) ?_
  refine sq_plain rfl rfl rfl (w_assign rfl ev_cb) ?_
  refine sq_plain rfl rfl rfl (w_assign rfl ev_ci) ?_
  refine sq_plain rfl rfl rfl (w_assign rfl ev_cb) ?_
  refine sq_nil ?_
  refine awp_seq ?_
  refine awp_seq ?_
  refine awp_region ?_
  refine sq_plain rfl rfl rfl (w_loadA 0 rfl (ev_tmp rfl) rfl Try.isAgg27 Try.sizeOf27 rfl) ?_
  refine sq_plain rfl rfl rfl (w_call rfl Try.call71 rfl (goodMove_spec _ (by first | assumption | omega)) (evl_cons (ev_tmp rfl) evl_nil)) ?_
  refine sq_plain rfl rfl rfl (w_not rfl (ev_tmp rfl)) ?_
  refine sq_plain rfl rfl rfl (w_move rfl (ev_tmp rfl)) ?_
  refine sq_grd rfl rfl (guard_f rfl rfl rfl) (fun hc => w_move rfl (ev_tmp rfl)) ?_
  refine sq_grd rfl rfl (guard_f rfl rfl rfl) (fun hc => w_call rfl Try.call73 rfl (goodKey_spec _ (by omega)) (evl_cons (ev_whn rfl hc) evl_nil)) ?_
  refine sq_grd rfl rfl (guard_f rfl rfl rfl) (fun hc => w_not rfl (ev_whn rfl hc)) ?_
  refine sq_plain rfl rfl rfl (w_or rfl (ev_tmp rfl) (evif_w rfl)) ?_
  refine sq_plain rfl rfl rfl (w_move rfl (ev_tmp rfl)) ?_
  refine sq_grd rfl rfl (guard_f rfl rfl rfl) (fun hc => w_fldBn 0 rfl Try.underlying27 rfl Try.sizeOf9 (ev_tmp rfl) rfl) ?_
  refine sq_grd rfl rfl (guard_f rfl rfl rfl) (fun hc => w_loadB1 0 rfl (ev_whn rfl hc) rfl Try.isAgg9 rfl) ?_
  refine sq_grd rfl rfl (guard_f rfl rfl rfl) (fun hc => w_fldBn 1 rfl Try.underlying27 rfl Try.sizeOf9 (ev_tmp rfl) rfl) ?_
  refine sq_grd rfl rfl (guard_f rfl rfl rfl) (fun hc => w_loadB1 0 rfl (ev_whn rfl hc) rfl Try.isAgg9 rfl) ?_
  refine sq_grd rfl rfl (guard_f rfl rfl rfl) (fun hc => w_move rfl (ev_tmp rfl)) ?_
  refine sq_grd rfl rfl (guard_f rfl rfl rfl) (fun hc => w_call rfl Try.call74 rfl (inRange_spec _ _ _) (evl_cons (ev_whn rfl hc) (evl_cons (ev_whn rfl hc) (evl_cons (ev_whn rfl hc) evl_nil)))) ?_
  refine sq_grd rfl rfl (guard_f rfl rfl rfl) (fun hc => w_not rfl (ev_whn rfl hc)) ?_
  refine sq_plain rfl rfl rfl (w_or rfl (ev_tmp rfl) (evif_w rfl)) ?_
  refine sq_nil ?_
  refine awp_cond (ev_tmp rfl) ?_ ?_
  · intro h26
    have he : readMove m k = ([], false, 0, false) := by unfold readMove; rw [if_pos h26]
    rw [he]
    refine awp_seq ?_
    refine awp_region ?_
    refine sq_plain rfl rfl rfl (w_assign rfl (ev_cs' (l := []) rfl)) ?_
    refine sq_plain rfl rfl rfl (w_assign rfl ev_cb) ?_
    refine sq_plain rfl rfl rfl (w_assign rfl ev_ci) ?_
    refine sq_plain rfl rfl rfl (w_assign rfl ev_cb) ?_
    refine sq_nil ?_
    refine awp_ret ?_
    exact retN rfl (by decide) (rv_cons (rv_tmp' rfl (by first | rfl | (refine congrArg AV.bool ?_; simp_all; done))) (rv_cons (rv_tmp' rfl (by first | rfl | (refine congrArg AV.bool ?_; simp_all; done))) (rv_cons (rv_tmp' rfl (by first | rfl | (refine congrArg AV.bool ?_; simp_all; done))) (rv_cons (rv_tmp' rfl (by first | rfl | (refine congrArg AV.bool ?_; simp_all; done))) rv_nil))))
  · intro h26
    have hg : ¬ ((!goodMove m || !goodKey k || !inRange m.Low m.High k) = true) := by rw [h26]; decide
    refine awp_skip ?_
    refine awp_seq ?_
    refine awp_region ?_
    refine sq_plain rfl rfl rfl (w_fldBn 3 rfl Try.underlying27 rfl Try.sizeOf23 (ev_tmp rfl) rfl) ?_
    refine sq_plain rfl rfl rfl (w_loadB1 0 rfl (ev_tmp rfl) rfl Try.isAgg23 rfl) ?_
    refine sq_plain rfl rfl rfl (w_assign rfl (ev_tmp rfl)) ?_
    refine sq_nil ?_
    refine awp_seq ?_
    refine awp_seq ?_
    refine awp_region ?_
    refine sq_plain rfl rfl rfl (w_fldBn 2 rfl Try.underlying27 rfl Try.sizeOf3 (ev_tmp rfl) rfl) ?_
    refine sq_plain rfl rfl rfl (w_loadB1 0 rfl (ev_tmp rfl) rfl Try.isAgg3 rfl) ?_
    refine sq_plain rfl rfl rfl (w_eql rfl (ev_tmp rfl) ev_ci) ?_
    refine sq_nil ?_
    refine awp_cond (ev_tmp rfl) ?_ ?_
    · intro h31
      have k31 := eq_of_beqt h31; try simp only [List.length_map] at k31
      have he : readMove m k = ((gotOf m.To k).Val, (gotOf m.To k).There, m.Phase, true) := by unfold readMove; rw [if_neg hg, if_pos k31]
      rw [he]
      refine awp_region ?_
      refine sq_plain rfl rfl rfl (w_fldBn 4 rfl Try.underlying27 rfl Try.sizeOf23 (ev_tmp rfl) rfl) ?_
      refine sq_plain rfl rfl rfl (w_loadB1 0 rfl (ev_tmp rfl) rfl Try.isAgg23 rfl) ?_
      refine sq_plain rfl rfl rfl (w_assign rfl (ev_tmp rfl)) ?_
      refine sq_nil ?_
      refine awp_seq ?_
      refine awp_region ?_
      refine sq_plain rfl rfl rfl (w_move rfl (ev_tmp rfl)) ?_
      refine sq_plain rfl rfl rfl (w_move rfl (ev_tmp rfl)) ?_
      refine sq_plain rfl rfl rfl (w_call rfl Try.call75 rfl (gotOf_spec _ _ (by omega)) (evl_cons (ev_tmp rfl) (evl_cons (ev_tmp rfl) evl_nil))) ?_
      refine sq_alloc rfl rfl rfl rfl Try.zeroValue120 rfl ?_
      intro b9
      refine sq_storeB0 0 rfl rfl rfl (ev_tmp rfl) (ev_tmp rfl) (as_agg _) rfl Try.sizeOf120 rfl ?_
      refine sq_nil ?_
      refine awp_seq ?_
      refine awp_region_any (by kernel_rfl) (by kernel_rfl) rfl ?_
      refine ch_plain rfl rfl (w_fldBn 1 rfl Try.underlying120 rfl Try.sizeOf9 (ev_tmp rfl) rfl) ?_
      refine ch_plain rfl rfl (w_loadB1 0 rfl (ev_tmp rfl) rfl Try.isAgg9 rfl) ?_
      refine ch_plain rfl rfl (w_fldBn 2 rfl Try.underlying120 rfl Try.sizeOf4 (ev_tmp rfl) rfl) ?_
      refine ch_plain rfl rfl (w_loadB1 0 rfl (ev_tmp rfl) rfl Try.isAgg4 rfl) ?_
      refine ch_plain rfl rfl (w_fldBn 2 rfl Try.underlying27 rfl Try.sizeOf3 (ev_tmp rfl) rfl) ?_
      refine ch_plain rfl rfl (w_loadB1 1 rfl (ev_tmp rfl) rfl Try.isAgg3 rfl) ?_
      refine ch_plain rfl rfl (w_assign rfl (ev_tmp rfl)) ?_
      refine ch_plain rfl rfl (w_assign rfl (ev_tmp rfl)) ?_
      refine ch_plain rfl rfl (w_assign rfl (ev_tmp rfl)) ?_
      refine ch_plain rfl rfl (w_assign rfl ev_cb) ?_
      refine ch_nil ?_
      refine awp_ret ?_
      exact retN rfl (by decide) (rv_cons (rv_tmp' rfl (by first | rfl | (refine congrArg AV.bool ?_; simp_all; done))) (rv_cons (rv_tmp' rfl (by first | rfl | (refine congrArg AV.bool ?_; simp_all; done))) (rv_cons (rv_tmp' rfl (by first | rfl | (refine congrArg AV.bool ?_; simp_all; done))) (rv_cons (rv_tmp' rfl (by first | rfl | (refine congrArg AV.bool ?_; simp_all; done))) rv_nil))))
    · intro h31
      have k31 := ne_of_beqf h31; try simp only [List.length_map] at k31
      have he : readMove m k = ((gotOf m.From k).Val, (gotOf m.From k).There, m.Phase, true) := by unfold readMove; rw [if_neg hg, if_neg k31]
      rw [he]
      refine awp_skip ?_
      refine awp_seq ?_
      refine awp_region ?_
      refine sq_plain rfl rfl rfl (w_move rfl (ev_tmp rfl)) ?_
      refine sq_plain rfl rfl rfl (w_move rfl (ev_tmp rfl)) ?_
      refine sq_plain rfl rfl rfl (w_call rfl Try.call75 rfl (gotOf_spec _ _ (by omega)) (evl_cons (ev_tmp rfl) (evl_cons (ev_tmp rfl) evl_nil))) ?_
      refine sq_alloc rfl rfl rfl rfl Try.zeroValue120 rfl ?_
      intro b9
      refine sq_storeB0 0 rfl rfl rfl (ev_tmp rfl) (ev_tmp rfl) (as_agg _) rfl Try.sizeOf120 rfl ?_
      refine sq_nil ?_
      refine awp_seq ?_
      refine awp_region_any (by kernel_rfl) (by kernel_rfl) rfl ?_
      refine ch_plain rfl rfl (w_fldBn 1 rfl Try.underlying120 rfl Try.sizeOf9 (ev_tmp rfl) rfl) ?_
      refine ch_plain rfl rfl (w_loadB1 0 rfl (ev_tmp rfl) rfl Try.isAgg9 rfl) ?_
      refine ch_plain rfl rfl (w_fldBn 2 rfl Try.underlying120 rfl Try.sizeOf4 (ev_tmp rfl) rfl) ?_
      refine ch_plain rfl rfl (w_loadB1 0 rfl (ev_tmp rfl) rfl Try.isAgg4 rfl) ?_
      refine ch_plain rfl rfl (w_fldBn 2 rfl Try.underlying27 rfl Try.sizeOf3 (ev_tmp rfl) rfl) ?_
      refine ch_plain rfl rfl (w_loadB1 1 rfl (ev_tmp rfl) rfl Try.isAgg3 rfl) ?_
      refine ch_plain rfl rfl (w_assign rfl (ev_tmp rfl)) ?_
      refine ch_plain rfl rfl (w_assign rfl (ev_tmp rfl)) ?_
      refine ch_plain rfl rfl (w_assign rfl (ev_tmp rfl)) ?_
      refine ch_plain rfl rfl (w_assign rfl ev_cb) ?_
      refine ch_nil ?_
      refine awp_ret ?_
      exact retN rfl (by decide) (rv_cons (rv_tmp' rfl (by first | rfl | (refine congrArg AV.bool ?_; simp_all; done))) (rv_cons (rv_tmp' rfl (by first | rfl | (refine congrArg AV.bool ?_; simp_all; done))) (rv_cons (rv_tmp' rfl (by first | rfl | (refine congrArg AV.bool ?_; simp_all; done))) (rv_cons (rv_tmp' rfl (by first | rfl | (refine congrArg AV.bool ?_; simp_all; done))) rv_nil))))
theorem readMoveS_spec (m : TMove) (k : Str) (hs : m.size ≤ 1048576) (hk : k.length ≤ 4611686018427387904) : FSpec Try.prog 13 [AV.agg m.cs, AV.str k] (AV.tup [AV.str (readMoveS m k).1, AV.bool (readMoveS m k).2.1, AV.int (readMoveS m k).2.2.1, AV.bool (readMoveS m k).2.2.2]) := by
  have hs' := hs; unfold TMove.size at hs'
  have hf : m.From.length ≤ 1048576 := Nat.le_trans sizeL_len (show sizeL TWrite.size m.From ≤ 1048576 by omega)
  have ht : m.To.length ≤ 1048576 := Nat.le_trans sizeL_len (show sizeL TWrite.size m.To ≤ 1048576 by omega)
  refine spec_of_awp Try.func13 rfl Try.ntmps13 rfl ?_
  refine awp_seq ?_
  refine awp_region ?_
  refine sq_box rfl rfl rfl rfl (ev_tmp rfl) ?_
  intro b2
  refine sq_plain rfl rfl rfl (w_assign rfl (ev_cs' (l := []) rfl)) ?_
  refine sq_plain rfl rfl rfl (w_assign rfl ev_cb) ?_
  refine sq_plain rfl rfl rfl (w_assign rfl ev_ci) ?_
  refine sq_plain rfl rfl rfl (w_assign rfl ev_cb) ?_
  refine sq_nil ?_
  refine awp_seq ?_
  refine awp_seq ?_
  refine awp_region ?_
  refine sq_plain rfl rfl rfl (w_loadA 0 rfl (ev_tmp rfl) rfl Try.isAgg27 Try.sizeOf27 rfl) ?_
  refine sq_plain rfl rfl rfl (w_call rfl Try.call76 rfl (goodMoveS_spec _ (by assumption)) (evl_cons (ev_tmp rfl) evl_nil)) ?_
  refine sq_plain rfl rfl rfl (w_not rfl (ev_tmp rfl)) ?_
  refine sq_plain rfl rfl rfl (w_move rfl (ev_tmp rfl)) ?_
  refine sq_grd rfl rfl (guard_f rfl rfl rfl) (fun hc => w_move rfl (ev_tmp rfl)) ?_
  refine sq_grd rfl rfl (guard_f rfl rfl rfl) (fun hc => w_call rfl Try.call77 rfl (l3Key_spec _ (by omega)) (evl_cons (ev_whn rfl hc) evl_nil)) ?_
  refine sq_grd rfl rfl (guard_f rfl rfl rfl) (fun hc => w_not rfl (ev_whn rfl hc)) ?_
  refine sq_plain rfl rfl rfl (w_or rfl (ev_tmp rfl) (evif_w rfl)) ?_
  refine sq_plain rfl rfl rfl (w_move rfl (ev_tmp rfl)) ?_
  refine sq_grd rfl rfl (guard_f rfl rfl rfl) (fun hc => w_fldBn 0 rfl Try.underlying27 rfl Try.sizeOf9 (ev_tmp rfl) rfl) ?_
  refine sq_grd rfl rfl (guard_f rfl rfl rfl) (fun hc => w_loadB1 0 rfl (ev_whn rfl hc) rfl Try.isAgg9 rfl) ?_
  refine sq_grd rfl rfl (guard_f rfl rfl rfl) (fun hc => w_fldBn 1 rfl Try.underlying27 rfl Try.sizeOf9 (ev_tmp rfl) rfl) ?_
  refine sq_grd rfl rfl (guard_f rfl rfl rfl) (fun hc => w_loadB1 0 rfl (ev_whn rfl hc) rfl Try.isAgg9 rfl) ?_
  refine sq_grd rfl rfl (guard_f rfl rfl rfl) (fun hc => w_move rfl (ev_tmp rfl)) ?_
  refine sq_grd rfl rfl (guard_f rfl rfl rfl) (fun hc => w_call rfl Try.call78 rfl (l22In_spec _ _ _) (evl_cons (ev_whn rfl hc) (evl_cons (ev_whn rfl hc) (evl_cons (ev_whn rfl hc) evl_nil)))) ?_
  refine sq_grd rfl rfl (guard_f rfl rfl rfl) (fun hc => w_not rfl (ev_whn rfl hc)) ?_
  refine sq_plain rfl rfl rfl (w_or rfl (ev_tmp rfl) (evif_w rfl)) ?_
  refine sq_nil ?_
  refine awp_cond (ev_tmp rfl) ?_ ?_
  · intro h27
    have he : readMoveS m k = ([], false, 0, false) := by unfold readMoveS; rw [if_pos h27]
    rw [he]
    refine awp_seq ?_
    refine awp_region ?_
    refine sq_plain rfl rfl rfl (w_assign rfl (ev_cs' (l := []) rfl)) ?_
    refine sq_plain rfl rfl rfl (w_assign rfl ev_cb) ?_
    refine sq_plain rfl rfl rfl (w_assign rfl ev_ci) ?_
    refine sq_plain rfl rfl rfl (w_assign rfl ev_cb) ?_
    refine sq_nil ?_
    refine awp_ret ?_
    exact retN rfl (by decide) (rv_cons (rv_tmp' rfl (by first | rfl | (refine congrArg AV.bool ?_; simp_all; done))) (rv_cons (rv_tmp' rfl (by first | rfl | (refine congrArg AV.bool ?_; simp_all; done))) (rv_cons (rv_tmp' rfl (by first | rfl | (refine congrArg AV.bool ?_; simp_all; done))) (rv_cons (rv_tmp' rfl (by first | rfl | (refine congrArg AV.bool ?_; simp_all; done))) rv_nil))))
  · intro h27
    have hg : ¬ ((!goodMoveS m || !l3Key k || !inRange m.Low m.High k) = true) := by rw [h27]; decide
    refine awp_skip ?_
    refine awp_seq ?_
    refine awp_region ?_
    refine sq_plain rfl rfl rfl (w_fldBn 3 rfl Try.underlying27 rfl Try.sizeOf23 (ev_tmp rfl) rfl) ?_
    refine sq_plain rfl rfl rfl (w_loadB1 0 rfl (ev_tmp rfl) rfl Try.isAgg23 rfl) ?_
    refine sq_plain rfl rfl rfl (w_assign rfl (ev_tmp rfl)) ?_
    refine sq_nil ?_
    refine awp_seq ?_
    refine awp_seq ?_
    refine awp_region ?_
    refine sq_plain rfl rfl rfl (w_fldBn 2 rfl Try.underlying27 rfl Try.sizeOf3 (ev_tmp rfl) rfl) ?_
    refine sq_plain rfl rfl rfl (w_loadB1 0 rfl (ev_tmp rfl) rfl Try.isAgg3 rfl) ?_
    refine sq_plain rfl rfl rfl (w_eql rfl (ev_tmp rfl) ev_ci) ?_
    refine sq_nil ?_
    refine awp_cond (ev_tmp rfl) ?_ ?_
    · intro h32
      have k32 := eq_of_beqt h32; try simp only [List.length_map] at k32
      obtain ⟨l, hl, hll⟩ : ∃ l, l = m.To ∧ l.length ≤ 1048576 := ⟨_, rfl, ht⟩
      have he : readMoveS m k = readRes (findW l k) m.Phase := by unfold readMoveS; rw [if_neg hg, if_pos k32, hl]
      refine awp_region ?_
      refine sq_plain rfl rfl rfl (w_fldBn 4 rfl Try.underlying27 rfl Try.sizeOf23 (ev_tmp rfl) rfl) ?_
      refine sq_plain rfl rfl rfl (w_loadB1 0 rfl (ev_tmp rfl) rfl Try.isAgg23 rfl) ?_
      refine sq_plain rfl rfl rfl (w_assign rfl (ev_tmp rfl)) ?_
      refine sq_nil ?_
      refine awp_seq ?_
      refine awp_seq ?_
      refine awp_region ?_
      refine sq_plain rfl rfl rfl (w_move rfl (ev_tmp rfl)) ?_
      refine sq_plain rfl rfl rfl (w_llen rfl Try.underlying23 (ev_tmp rfl)) ?_
      refine sq_plain rfl rfl rfl (w_move rfl ev_ci) ?_
      refine sq_nil ?_
      refine awp_block ?_
      rw [← hl]
      refine awp_loop_i [(1, _), (2, _), (35, _), (36, _)] _ (fun (i : Nat) => i ≤ l.length ∧ findW l k = findW (l.drop i) k) (fun (i : Nat) => []) (fun (i : Nat) => [(37, AV.int i)]) (fun (i : Nat) => l.length - i) (0) ?_ (le_env ⟨rfl, rfl, rfl, rfl, rfl, trivial⟩) ?_
      · exact ⟨Nat.zero_le _, rfl⟩
      intro i hinv
      refine awp_seq ?_
      refine awp_region ?_
      refine sq_plain rfl rfl rfl (w_lss rfl (ev_tmp rfl) (ev_tmp rfl)) ?_
      refine sq_nil ?_
      refine awp_seq ?_
      refine awp_cond (ev_tmp rfl) ?_ ?_
      · intro h38
        have k38 := of_decide_eq_true h38; try simp only [List.length_map] at k38
        have hlt : i < l.length := by omega
        obtain ⟨x, hx⟩ := get_some hlt
        refine awp_skip ?_
        refine awp_seq ?_
        refine awp_block ?_
        refine awp_seq ?_
        refine awp_region ?_
        refine sq_plain rfl rfl rfl (w_idxm rfl Try.underlying23 Try.sizeOf37 (ev_tmp rfl) (ev_tmp rfl) hx (by first | omega | ((try simp only [List.length_map, List.length_take, List.length_cons, List.length_nil, chunks_len, szR] at *); omega) | (have hc2 := hc; simp only [Bool.and_eq_true, Bool.or_eq_true, Bool.or_eq_false_iff, Bool.and_eq_false_iff, Bool.not_eq_true', Bool.not_eq_false', decide_eq_true_eq, decide_eq_false_iff_not, beq_iff_eq, bne_iff_ne, List.length_map, List.length_take] at hc2; omega))) ?_
        refine sq_plain rfl rfl rfl (w_loadE rfl (ev_tmp rfl) Try.isAgg37 Try.sizeOf37) ?_
        refine sq_alloc rfl rfl rfl rfl Try.zeroValue37 rfl ?_
        intro b10
        refine sq_storeB0 0 rfl rfl rfl (ev_tmp rfl) (ev_tmp rfl) (as_agg _) rfl Try.sizeOf37 rfl ?_
        refine sq_nil ?_
        refine awp_seq ?_
        refine awp_region ?_
        refine sq_plain rfl rfl rfl (w_fldBn 0 rfl Try.underlying37 rfl Try.sizeOf9 (ev_tmp rfl) rfl) ?_
        refine sq_plain rfl rfl rfl (w_loadB1 0 rfl (ev_tmp rfl) rfl Try.isAgg9 rfl) ?_
        refine sq_plain rfl rfl rfl (w_move rfl (ev_tmp rfl)) ?_
        refine sq_plain rfl rfl rfl (w_seql rfl (ev_tmp rfl) (ev_tmp rfl)) ?_
        refine sq_nil ?_
        refine awp_cond (ev_tmp rfl) ?_ ?_
        · intro h44
          have hsome : findW l k = some x := by rw [hinv.2, drop_some hx]; unfold findW; rw [List.find?_cons, h44]
          rw [he, hsome]
          refine awp_seq ?_
          refine awp_region_any (by kernel_rfl) (by kernel_rfl) rfl ?_
          refine ch_plain rfl rfl (w_fldBn 1 rfl Try.underlying37 rfl Try.sizeOf9 (ev_tmp rfl) rfl) ?_
          refine ch_plain rfl rfl (w_loadB1 0 rfl (ev_tmp rfl) rfl Try.isAgg9 rfl) ?_
          refine ch_plain rfl rfl (w_fldBn 2 rfl Try.underlying27 rfl Try.sizeOf3 (ev_tmp rfl) rfl) ?_
          refine ch_plain rfl rfl (w_loadB1 1 rfl (ev_tmp rfl) rfl Try.isAgg3 rfl) ?_
          refine ch_plain rfl rfl (w_assign rfl (ev_tmp rfl)) ?_
          refine ch_plain rfl rfl (w_assign rfl ev_cb) ?_
          refine ch_plain rfl rfl (w_assign rfl (ev_tmp rfl)) ?_
          refine ch_plain rfl rfl (w_assign rfl ev_cb) ?_
          refine ch_nil ?_
          refine awp_ret ?_
          exact retN rfl (by decide) (rv_cons (rv_tmp' rfl (by first | rfl | (refine congrArg AV.bool ?_; simp_all; done))) (rv_cons (rv_tmp' rfl (by first | rfl | (refine congrArg AV.bool ?_; simp_all; done))) (rv_cons (rv_tmp' rfl (by first | rfl | (refine congrArg AV.bool ?_; simp_all; done))) (rv_cons (rv_tmp' rfl (by first | rfl | (refine congrArg AV.bool ?_; simp_all; done))) rv_nil))))
        · intro h44
          refine awp_skip ?_
          refine awp_region ?_
          refine sq_plain rfl rfl rfl (w_addi rfl (ev_tmp rfl) ev_ci (by first | omega | ((try simp only [List.length_map, List.length_take, List.length_cons, List.length_nil, chunks_len, szR] at *); omega) | (have hc2 := hc; simp only [Bool.and_eq_true, Bool.or_eq_true, Bool.or_eq_false_iff, Bool.and_eq_false_iff, Bool.not_eq_true', Bool.not_eq_false', decide_eq_true_eq, decide_eq_false_iff_not, beq_iff_eq, bne_iff_ne, List.length_map, List.length_take] at hc2; omega))) ?_
          refine sq_plain rfl rfl rfl (w_move rfl (ev_tmp rfl)) ?_
          refine sq_nil ?_
          refine round_end i (i + 1) ?_ ?_ (le_drop 1 ⟨rfl, rfl, rfl, rfl, rfl, trivial⟩)
          · exact ⟨by omega, by rw [hinv.2, drop_some hx]; unfold findW; rw [List.find?_cons, h44]⟩
          · omega
      · intro h38
        have k38 := of_decide_eq_false h38; try simp only [List.length_map] at k38
        have hge : l.length ≤ i := by omega
        have hnone : findW l k = none := by rw [hinv.2, List.drop_eq_nil_of_le hge]; rfl
        rw [he, hnone]
        refine awp_exit ?_
        refine awp_seq ?_
        refine awp_region_any (by kernel_rfl) (by kernel_rfl) rfl ?_
        refine ch_plain rfl rfl (w_fldBn 2 rfl Try.underlying27 rfl Try.sizeOf3 (ev_tmp rfl) rfl) ?_
        refine ch_plain rfl rfl (w_loadB1 0 rfl (ev_tmp rfl) rfl Try.isAgg3 rfl) ?_
        refine ch_plain rfl rfl (w_assign rfl (ev_cs' (l := []) rfl)) ?_
        refine ch_plain rfl rfl (w_assign rfl ev_cb) ?_
        refine ch_plain rfl rfl (w_assign rfl (ev_tmp rfl)) ?_
        refine ch_plain rfl rfl (w_assign rfl ev_cb) ?_
        refine ch_nil ?_
        refine awp_ret ?_
        exact retN rfl (by decide) (rv_cons (rv_tmp' rfl (by first | rfl | (refine congrArg AV.bool ?_; simp_all; done))) (rv_cons (rv_tmp' rfl (by first | rfl | (refine congrArg AV.bool ?_; simp_all; done))) (rv_cons (rv_tmp' rfl (by first | rfl | (refine congrArg AV.bool ?_; simp_all; done))) (rv_cons (rv_tmp' rfl (by first | rfl | (refine congrArg AV.bool ?_; simp_all; done))) rv_nil))))
    · intro h32
      have k32 := ne_of_beqf h32; try simp only [List.length_map] at k32
      obtain ⟨l, hl, hll⟩ : ∃ l, l = m.From ∧ l.length ≤ 1048576 := ⟨_, rfl, hf⟩
      have he : readMoveS m k = readRes (findW l k) m.Phase := by unfold readMoveS; rw [if_neg hg, if_neg k32, hl]
      refine awp_skip ?_
      refine awp_seq ?_
      refine awp_seq ?_
      refine awp_region ?_
      refine sq_plain rfl rfl rfl (w_move rfl (ev_tmp rfl)) ?_
      refine sq_plain rfl rfl rfl (w_llen rfl Try.underlying23 (ev_tmp rfl)) ?_
      refine sq_plain rfl rfl rfl (w_move rfl ev_ci) ?_
      refine sq_nil ?_
      refine awp_block ?_
      rw [← hl]
      refine awp_loop_i [(1, _), (2, _), (35, _), (36, _)] _ (fun (i : Nat) => i ≤ l.length ∧ findW l k = findW (l.drop i) k) (fun (i : Nat) => []) (fun (i : Nat) => [(37, AV.int i)]) (fun (i : Nat) => l.length - i) (0) ?_ (le_env ⟨rfl, rfl, rfl, rfl, rfl, trivial⟩) ?_
      · exact ⟨Nat.zero_le _, rfl⟩
      intro i hinv
      refine awp_seq ?_
      refine awp_region ?_
      refine sq_plain rfl rfl rfl (w_lss rfl (ev_tmp rfl) (ev_tmp rfl)) ?_
      refine sq_nil ?_
      refine awp_seq ?_
      refine awp_cond (ev_tmp rfl) ?_ ?_
      · intro h38
        have k38 := of_decide_eq_true h38; try simp only [List.length_map] at k38
        have hlt : i < l.length := by omega
        obtain ⟨x, hx⟩ := get_some hlt
        refine awp_skip ?_
        refine awp_seq ?_
        refine awp_block ?_
        refine awp_seq ?_
        refine awp_region ?_
        refine sq_plain rfl rfl rfl (w_idxm rfl Try.underlying23 Try.sizeOf37 (ev_tmp rfl) (ev_tmp rfl) hx (by first | omega | ((try simp only [List.length_map, List.length_take, List.length_cons, List.length_nil, chunks_len, szR] at *); omega) | (have hc2 := hc; simp only [Bool.and_eq_true, Bool.or_eq_true, Bool.or_eq_false_iff, Bool.and_eq_false_iff, Bool.not_eq_true', Bool.not_eq_false', decide_eq_true_eq, decide_eq_false_iff_not, beq_iff_eq, bne_iff_ne, List.length_map, List.length_take] at hc2; omega))) ?_
        refine sq_plain rfl rfl rfl (w_loadE rfl (ev_tmp rfl) Try.isAgg37 Try.sizeOf37) ?_
        refine sq_alloc rfl rfl rfl rfl Try.zeroValue37 rfl ?_
        intro b10
        refine sq_storeB0 0 rfl rfl rfl (ev_tmp rfl) (ev_tmp rfl) (as_agg _) rfl Try.sizeOf37 rfl ?_
        refine sq_nil ?_
        refine awp_seq ?_
        refine awp_region ?_
        refine sq_plain rfl rfl rfl (w_fldBn 0 rfl Try.underlying37 rfl Try.sizeOf9 (ev_tmp rfl) rfl) ?_
        refine sq_plain rfl rfl rfl (w_loadB1 0 rfl (ev_tmp rfl) rfl Try.isAgg9 rfl) ?_
        refine sq_plain rfl rfl rfl (w_move rfl (ev_tmp rfl)) ?_
        refine sq_plain rfl rfl rfl (w_seql rfl (ev_tmp rfl) (ev_tmp rfl)) ?_
        refine sq_nil ?_
        refine awp_cond (ev_tmp rfl) ?_ ?_
        · intro h44
          have hsome : findW l k = some x := by rw [hinv.2, drop_some hx]; unfold findW; rw [List.find?_cons, h44]
          rw [he, hsome]
          refine awp_seq ?_
          refine awp_region_any (by kernel_rfl) (by kernel_rfl) rfl ?_
          refine ch_plain rfl rfl (w_fldBn 1 rfl Try.underlying37 rfl Try.sizeOf9 (ev_tmp rfl) rfl) ?_
          refine ch_plain rfl rfl (w_loadB1 0 rfl (ev_tmp rfl) rfl Try.isAgg9 rfl) ?_
          refine ch_plain rfl rfl (w_fldBn 2 rfl Try.underlying27 rfl Try.sizeOf3 (ev_tmp rfl) rfl) ?_
          refine ch_plain rfl rfl (w_loadB1 1 rfl (ev_tmp rfl) rfl Try.isAgg3 rfl) ?_
          refine ch_plain rfl rfl (w_assign rfl (ev_tmp rfl)) ?_
          refine ch_plain rfl rfl (w_assign rfl ev_cb) ?_
          refine ch_plain rfl rfl (w_assign rfl (ev_tmp rfl)) ?_
          refine ch_plain rfl rfl (w_assign rfl ev_cb) ?_
          refine ch_nil ?_
          refine awp_ret ?_
          exact retN rfl (by decide) (rv_cons (rv_tmp' rfl (by first | rfl | (refine congrArg AV.bool ?_; simp_all; done))) (rv_cons (rv_tmp' rfl (by first | rfl | (refine congrArg AV.bool ?_; simp_all; done))) (rv_cons (rv_tmp' rfl (by first | rfl | (refine congrArg AV.bool ?_; simp_all; done))) (rv_cons (rv_tmp' rfl (by first | rfl | (refine congrArg AV.bool ?_; simp_all; done))) rv_nil))))
        · intro h44
          refine awp_skip ?_
          refine awp_region ?_
          refine sq_plain rfl rfl rfl (w_addi rfl (ev_tmp rfl) ev_ci (by first | omega | ((try simp only [List.length_map, List.length_take, List.length_cons, List.length_nil, chunks_len, szR] at *); omega) | (have hc2 := hc; simp only [Bool.and_eq_true, Bool.or_eq_true, Bool.or_eq_false_iff, Bool.and_eq_false_iff, Bool.not_eq_true', Bool.not_eq_false', decide_eq_true_eq, decide_eq_false_iff_not, beq_iff_eq, bne_iff_ne, List.length_map, List.length_take] at hc2; omega))) ?_
          refine sq_plain rfl rfl rfl (w_move rfl (ev_tmp rfl)) ?_
          refine sq_nil ?_
          refine round_end i (i + 1) ?_ ?_ (le_drop 1 ⟨rfl, rfl, rfl, rfl, rfl, trivial⟩)
          · exact ⟨by omega, by rw [hinv.2, drop_some hx]; unfold findW; rw [List.find?_cons, h44]⟩
          · omega
      · intro h38
        have k38 := of_decide_eq_false h38; try simp only [List.length_map] at k38
        have hge : l.length ≤ i := by omega
        have hnone : findW l k = none := by rw [hinv.2, List.drop_eq_nil_of_le hge]; rfl
        rw [he, hnone]
        refine awp_exit ?_
        refine awp_seq ?_
        refine awp_region_any (by kernel_rfl) (by kernel_rfl) rfl ?_
        refine ch_plain rfl rfl (w_fldBn 2 rfl Try.underlying27 rfl Try.sizeOf3 (ev_tmp rfl) rfl) ?_
        refine ch_plain rfl rfl (w_loadB1 0 rfl (ev_tmp rfl) rfl Try.isAgg3 rfl) ?_
        refine ch_plain rfl rfl (w_assign rfl (ev_cs' (l := []) rfl)) ?_
        refine ch_plain rfl rfl (w_assign rfl ev_cb) ?_
        refine ch_plain rfl rfl (w_assign rfl (ev_tmp rfl)) ?_
        refine ch_plain rfl rfl (w_assign rfl ev_cb) ?_
        refine ch_nil ?_
        refine awp_ret ?_
        exact retN rfl (by decide) (rv_cons (rv_tmp' rfl (by first | rfl | (refine congrArg AV.bool ?_; simp_all; done))) (rv_cons (rv_tmp' rfl (by first | rfl | (refine congrArg AV.bool ?_; simp_all; done))) (rv_cons (rv_tmp' rfl (by first | rfl | (refine congrArg AV.bool ?_; simp_all; done))) (rv_cons (rv_tmp' rfl (by first | rfl | (refine congrArg AV.bool ?_; simp_all; done))) rv_nil))))
theorem l29Many_spec (n : Int) : FSpec Try.prog 163 [AV.int n] (AV.bool (within n 1 24)) := by
  refine spec_of_awp Try.func163 rfl Try.ntmps163 rfl ?_
  refine awp_seq ?_
  refine awp_region ?_
  refine sq_plain rfl rfl rfl (w_assign rfl ev_cb) ?_
  refine sq_nil ?_
  refine awp_seq ?_
  refine awp_region ?_
  refine sq_plain rfl rfl rfl (w_move rfl (ev_tmp rfl)) ?_
  refine sq_plain rfl rfl rfl (w_call rfl Try.call107 rfl (l1In_spec _ _ _) (evl_cons (ev_tmp rfl) (evl_cons ev_ci (evl_cons ev_ci evl_nil)))) ?_
  refine sq_plain rfl rfl rfl (w_assign rfl (ev_tmp rfl)) ?_
  refine sq_nil ?_
  refine awp_ret ?_
  exact retR rfl (rv_tmp' rfl (by first | rfl | (refine congrArg AV.bool ?_; simp_all; done)))
theorem isMoveAct_spec (m : TMove) (a : TMoveAct) (hs : a.size ≤ 1048576) : FSpec Try.prog 87 [AV.agg m.cs, AV.agg a.cs] (AV.bool (isMoveAct m a)) := by
  have hs' : sizeL TWrite.size [a.Write] ≤ 4194304 := by unfold sizeL; unfold TMoveAct.size at hs; simp; omega
  refine spec_of_awp Try.func87 rfl Try.ntmps87 rfl ?_
  refine awp_seq ?_
  refine awp_region ?_
  refine sq_box rfl rfl rfl rfl (ev_tmp rfl) ?_
  intro b2
  refine sq_box rfl rfl rfl rfl (ev_tmp rfl) ?_
  intro b3
  refine sq_plain rfl rfl rfl (w_assign rfl ev_cb) ?_
  refine sq_nil ?_
  refine awp_seq ?_
  refine awp_seq ?_
  refine awp_region ?_
  refine sq_plain rfl rfl rfl (w_fldBn 0 rfl Try.underlying39 rfl Try.sizeOf3 (ev_tmp rfl) rfl) ?_
  refine sq_plain rfl rfl rfl (w_loadB1 0 rfl (ev_tmp rfl) rfl Try.isAgg3 rfl) ?_
  refine sq_nil ?_
  refine awp_block ?_
  refine awp_seq ?_
  refine awp_region ?_
  refine sq_plain rfl rfl rfl (w_eql rfl (ev_tmp rfl) ev_ci) ?_
  refine sq_plain rfl rfl rfl (w_assign rfl (ev_tmp rfl)) ?_
  refine sq_nil ?_
  refine awp_cond (ev_tmp rfl) ?_ ?_
  · intro h7
    have k7 := eq_of_beqt h7; try simp only [List.length_map] at k7
    refine awp_seq ?_
    refine awp_region ?_
    refine sq_plain rfl rfl rfl (w_fldBn 4 rfl Try.underlying39 rfl Try.sizeOf3 (ev_tmp rfl) rfl) ?_
    refine sq_plain rfl rfl rfl (w_loadB1 0 rfl (ev_tmp rfl) rfl Try.isAgg3 rfl) ?_
    refine sq_plain rfl rfl rfl (w_eql rfl (ev_tmp rfl) ev_ci) ?_
    refine sq_plain rfl rfl rfl (w_move rfl (ev_tmp rfl)) ?_
    refine sq_grd rfl rfl (guard_t rfl rfl rfl) (fun hc => w_fldBn 1 rfl Try.underlying39 rfl Try.sizeOf37 (ev_tmp rfl) rfl) ?_
    refine sq_grd rfl rfl (guard_t rfl rfl rfl) (fun hc => w_loadAP a.Write.cs 0 rfl (ev_whn rfl hc) rfl Try.isAgg37 Try.sizeOf37 rfl rfl) ?_
    refine sq_grd rfl rfl (guard_t rfl rfl rfl) (fun hc => w_bslice rfl Try.underlying23 Try.sizeOf37 Try.zeroValue37 rfl rfl rfl rfl (bp_cons (ev_whn rfl hc) (as_agg _) bp_nil) rfl rfl) ?_
    refine sq_grd rfl rfl (guard_t rfl rfl rfl) (fun hc => w_call rfl Try.call161 rfl (goodWrites_spec [a.Write] hs') (evl_cons (ev_whn rfl hc) evl_nil)) ?_
    refine sq_plain rfl rfl rfl (w_and rfl (ev_tmp rfl) (evif_w rfl)) ?_
    refine sq_plain rfl rfl rfl (w_move rfl (ev_tmp rfl)) ?_
    refine sq_grd rfl rfl (guard_t rfl rfl rfl) (fun hc => w_fldBn 0 rfl Try.underlying27 rfl Try.sizeOf9 (ev_tmp rfl) rfl) ?_
    refine sq_grd rfl rfl (guard_t rfl rfl rfl) (fun hc => w_loadB1 1 rfl (ev_whn rfl hc) rfl Try.isAgg9 rfl) ?_
    refine sq_grd rfl rfl (guard_t rfl rfl rfl) (fun hc => w_fldBn 1 rfl Try.underlying27 rfl Try.sizeOf9 (ev_tmp rfl) rfl) ?_
    refine sq_grd rfl rfl (guard_t rfl rfl rfl) (fun hc => w_loadB1 1 rfl (ev_whn rfl hc) rfl Try.isAgg9 rfl) ?_
    refine sq_grd rfl rfl (guard_t rfl rfl rfl) (fun hc => w_fldBn 1 rfl Try.underlying39 rfl Try.sizeOf37 (ev_tmp rfl) rfl) ?_
    refine sq_grd rfl rfl (guard_t rfl rfl rfl) (fun hc => w_fldBn 1 rfl Try.underlying37 rfl Try.sizeOf9 (ev_whn rfl hc) rfl) ?_
    refine sq_grd rfl rfl (guard_t rfl rfl rfl) (fun hc => w_loadB1 0 rfl (ev_whn rfl hc) rfl Try.isAgg9 rfl) ?_
    refine sq_grd rfl rfl (guard_t rfl rfl rfl) (fun hc => w_call rfl Try.call74 rfl (inRange_spec _ _ _) (evl_cons (ev_whn rfl hc) (evl_cons (ev_whn rfl hc) (evl_cons (ev_whn rfl hc) evl_nil)))) ?_
    refine sq_plain rfl rfl rfl (w_and rfl (ev_tmp rfl) (evif_w rfl)) ?_
    refine sq_plain rfl rfl rfl (w_assign rfl (ev_tmp rfl)) ?_
    refine sq_nil ?_
    refine awp_ret ?_
    exact retR rfl (rv_tmp' rfl (by exact congrArg AV.bool (by unfold isMoveAct; simp_all [noWrite, wEq])))
  · intro h7
    have k7 := ne_of_beqf h7; try simp only [List.length_map] at k7
    refine awp_seq ?_
    refine awp_region ?_
    refine sq_plain rfl rfl rfl (w_eql rfl (ev_tmp rfl) ev_ci) ?_
    refine sq_plain rfl rfl rfl (w_assign rfl (ev_tmp rfl)) ?_
    refine sq_nil ?_
    refine awp_cond (ev_tmp rfl) ?_ ?_
    · intro h28
      have k28 := eq_of_beqt h28; try simp only [List.length_map] at k28
      refine awp_seq ?_
      refine awp_region ?_
      refine sq_plain rfl rfl rfl (w_fldBn 1 rfl Try.underlying39 rfl Try.sizeOf37 (ev_tmp rfl) rfl) ?_
      refine sq_plain rfl rfl rfl (w_loadAP a.Write.cs 0 rfl (ev_tmp rfl) rfl Try.isAgg37 Try.sizeOf37 rfl rfl) ?_
      refine sq_plain rfl rfl rfl (w_build (places := #[(0, 1), (1, 1), (2, 1)]) rfl Try.underlying37 Try.zeroValue37 (fun w => by kernel_rfl) rfl bp_nil rfl) ?_
      refine sq_plain rfl rfl rfl (w_aeql rfl Try.underlying37 (by kernel_rfl) (by kernel_rfl) (ev_tmp rfl) (ev_tmp rfl) (eqf_cons (by kernel_rfl) Try.isAgg9 rfl rfl (eqf_str Try.underlying9) (eqf_cons (by kernel_rfl) Try.isAgg9 rfl rfl (eqf_str Try.underlying9) (eqf_cons (by kernel_rfl) Try.isAgg4 rfl rfl (eqf_bool Try.underlying4) eqf_nil)))) ?_
      refine sq_plain rfl rfl rfl (w_move rfl (ev_tmp rfl)) ?_
      refine sq_grd rfl rfl (guard_t rfl rfl rfl) (fun hc => w_fldBn 4 rfl Try.underlying39 rfl Try.sizeOf3 (ev_tmp rfl) rfl) ?_
      refine sq_grd rfl rfl (guard_t rfl rfl rfl) (fun hc => w_loadB1 0 rfl (ev_whn rfl hc) rfl Try.isAgg3 rfl) ?_
      refine sq_grd rfl rfl (guard_t rfl rfl rfl) (fun hc => w_call rfl Try.call113 rfl (within_spec _ _ _) (evl_cons (ev_whn rfl hc) (evl_cons ev_ci (evl_cons ev_ci evl_nil)))) ?_
      refine sq_plain rfl rfl rfl (w_and rfl (ev_tmp rfl) (evif_w rfl)) ?_
      refine sq_plain rfl rfl rfl (w_assign rfl (ev_tmp rfl)) ?_
      refine sq_nil ?_
      refine awp_ret ?_
      exact retR rfl (rv_tmp' rfl (by exact congrArg AV.bool (by unfold isMoveAct; simp_all [noWrite, wEq])))
    · intro h28
      have k28 := ne_of_beqf h28; try simp only [List.length_map] at k28
      refine awp_seq ?_
      refine awp_seq ?_
      refine awp_region ?_
      refine sq_plain rfl rfl rfl (w_eql rfl (ev_tmp rfl) ev_ci) ?_
      refine sq_plain rfl rfl rfl (w_assign rfl (ev_tmp rfl)) ?_
      refine sq_nil ?_
      refine awp_cond (ev_tmp rfl) ?_ ?_
      · intro h39
        have k39 := eq_of_beqt h39; try simp only [List.length_map] at k39
        refine awp_skip ?_
        refine awp_cond (ev_tmp rfl) ?_ ?_
        · intro h39
          have k39 := eq_of_beqt h39; try simp only [List.length_map] at k39
          refine awp_seq ?_
          refine awp_region ?_
          refine sq_plain rfl rfl rfl (w_fldBn 1 rfl Try.underlying39 rfl Try.sizeOf37 (ev_tmp rfl) rfl) ?_
          refine sq_plain rfl rfl rfl (w_loadAP a.Write.cs 0 rfl (ev_tmp rfl) rfl Try.isAgg37 Try.sizeOf37 rfl rfl) ?_
          refine sq_plain rfl rfl rfl (w_build (places := #[(0, 1), (1, 1), (2, 1)]) rfl Try.underlying37 Try.zeroValue37 (fun w => by kernel_rfl) rfl bp_nil rfl) ?_
          refine sq_plain rfl rfl rfl (w_aeql rfl Try.underlying37 (by kernel_rfl) (by kernel_rfl) (ev_tmp rfl) (ev_tmp rfl) (eqf_cons (by kernel_rfl) Try.isAgg9 rfl rfl (eqf_str Try.underlying9) (eqf_cons (by kernel_rfl) Try.isAgg9 rfl rfl (eqf_str Try.underlying9) (eqf_cons (by kernel_rfl) Try.isAgg4 rfl rfl (eqf_bool Try.underlying4) eqf_nil)))) ?_
          refine sq_plain rfl rfl rfl (w_move rfl (ev_tmp rfl)) ?_
          refine sq_grd rfl rfl (guard_t rfl rfl rfl) (fun hc => w_fldBn 4 rfl Try.underlying39 rfl Try.sizeOf3 (ev_tmp rfl) rfl) ?_
          refine sq_grd rfl rfl (guard_t rfl rfl rfl) (fun hc => w_loadB1 0 rfl (ev_whn rfl hc) rfl Try.isAgg3 rfl) ?_
          refine sq_grd rfl rfl (guard_t rfl rfl rfl) (fun hc => w_eql rfl (ev_whn rfl hc) ev_ci) ?_
          refine sq_plain rfl rfl rfl (w_and rfl (ev_tmp rfl) (evif_w rfl)) ?_
          refine sq_plain rfl rfl rfl (w_assign rfl (ev_tmp rfl)) ?_
          refine sq_nil ?_
          refine awp_ret ?_
          exact retR rfl (rv_tmp' rfl (by exact congrArg AV.bool (by unfold isMoveAct; simp_all [noWrite, wEq])))
        · intro h39
          have k39 := ne_of_beqf h39; try simp only [List.length_map] at k39
          refine awp_skip ?_
          refine awp_seq ?_
          refine awp_region ?_
          refine sq_plain rfl rfl rfl (w_assign rfl ev_cb) ?_
          refine sq_nil ?_
          refine awp_ret ?_
          exact retR rfl (rv_tmp' rfl (by exact congrArg AV.bool (by unfold isMoveAct; simp_all [noWrite, wEq])))
      · intro h39
        have k39 := ne_of_beqf h39; try simp only [List.length_map] at k39
        refine awp_region ?_
        refine sq_plain rfl rfl rfl (w_eql rfl (ev_tmp rfl) ev_ci) ?_
        refine sq_plain rfl rfl rfl (w_assign rfl (ev_tmp rfl)) ?_
        refine sq_nil ?_
        refine awp_cond (ev_tmp rfl) ?_ ?_
        · intro h39
          have k39 := eq_of_beqt h39; try simp only [List.length_map] at k39
          refine awp_seq ?_
          refine awp_region ?_
          refine sq_plain rfl rfl rfl (w_fldBn 1 rfl Try.underlying39 rfl Try.sizeOf37 (ev_tmp rfl) rfl) ?_
          refine sq_plain rfl rfl rfl (w_loadAP a.Write.cs 0 rfl (ev_tmp rfl) rfl Try.isAgg37 Try.sizeOf37 rfl rfl) ?_
          refine sq_plain rfl rfl rfl (w_build (places := #[(0, 1), (1, 1), (2, 1)]) rfl Try.underlying37 Try.zeroValue37 (fun w => by kernel_rfl) rfl bp_nil rfl) ?_
          refine sq_plain rfl rfl rfl (w_aeql rfl Try.underlying37 (by kernel_rfl) (by kernel_rfl) (ev_tmp rfl) (ev_tmp rfl) (eqf_cons (by kernel_rfl) Try.isAgg9 rfl rfl (eqf_str Try.underlying9) (eqf_cons (by kernel_rfl) Try.isAgg9 rfl rfl (eqf_str Try.underlying9) (eqf_cons (by kernel_rfl) Try.isAgg4 rfl rfl (eqf_bool Try.underlying4) eqf_nil)))) ?_
          refine sq_plain rfl rfl rfl (w_move rfl (ev_tmp rfl)) ?_
          refine sq_grd rfl rfl (guard_t rfl rfl rfl) (fun hc => w_fldBn 4 rfl Try.underlying39 rfl Try.sizeOf3 (ev_tmp rfl) rfl) ?_
          refine sq_grd rfl rfl (guard_t rfl rfl rfl) (fun hc => w_loadB1 0 rfl (ev_whn rfl hc) rfl Try.isAgg3 rfl) ?_
          refine sq_grd rfl rfl (guard_t rfl rfl rfl) (fun hc => w_eql rfl (ev_whn rfl hc) ev_ci) ?_
          refine sq_plain rfl rfl rfl (w_and rfl (ev_tmp rfl) (evif_w rfl)) ?_
          refine sq_plain rfl rfl rfl (w_assign rfl (ev_tmp rfl)) ?_
          refine sq_nil ?_
          refine awp_ret ?_
          exact retR rfl (rv_tmp' rfl (by exact congrArg AV.bool (by unfold isMoveAct; simp_all [noWrite, wEq])))
        · intro h39
          have k39 := ne_of_beqf h39; try simp only [List.length_map] at k39
          refine awp_skip ?_
          refine awp_seq ?_
          refine awp_region ?_
          refine sq_plain rfl rfl rfl (w_assign rfl ev_cb) ?_
          refine sq_nil ?_
          refine awp_ret ?_
          exact retR rfl (rv_tmp' rfl (by exact congrArg AV.bool (by unfold isMoveAct; simp_all [noWrite, wEq])))
theorem l22Good_spec (m : TMove) (a : TMoveAct) (hs : a.size ≤ 1048576) : FSpec Try.prog 88 [AV.agg m.cs, AV.agg a.cs] (AV.bool (l22Good m a)) := by
  have hs' := hs; unfold TMoveAct.size TWrite.size at hs'
  refine spec_of_awp Try.func88 rfl Try.ntmps88 rfl ?_
  refine awp_seq ?_
  refine awp_region ?_
  refine sq_box rfl rfl rfl rfl (ev_tmp rfl) ?_
  intro b2
  refine sq_box rfl rfl rfl rfl (ev_tmp rfl) ?_
  intro b3
  refine sq_plain rfl rfl rfl (w_assign rfl ev_cb) ?_
  refine sq_nil ?_
  refine awp_seq ?_
  refine awp_region ?_
  refine sq_plain rfl rfl rfl (w_fldBn 1 rfl Try.underlying39 rfl Try.sizeOf37 (ev_tmp rfl) rfl) ?_
  refine sq_plain rfl rfl rfl (w_loadAP a.Write.cs 0 rfl (ev_tmp rfl) rfl Try.isAgg37 Try.sizeOf37 rfl rfl) ?_
  refine sq_plain rfl rfl rfl (w_build (places := #[(0, 1), (1, 1), (2, 1)]) rfl Try.underlying37 Try.zeroValue37 (fun w => by kernel_rfl) rfl bp_nil rfl) ?_
  refine sq_plain rfl rfl rfl (w_aeql rfl Try.underlying37 (by kernel_rfl) (by kernel_rfl) (ev_tmp rfl) (ev_tmp rfl) (eqf_cons (by kernel_rfl) Try.isAgg9 rfl rfl (eqf_str Try.underlying9) (eqf_cons (by kernel_rfl) Try.isAgg9 rfl rfl (eqf_str Try.underlying9) (eqf_cons (by kernel_rfl) Try.isAgg4 rfl rfl (eqf_bool Try.underlying4) eqf_nil)))) ?_
  refine sq_plain rfl rfl rfl (w_assign rfl (ev_tmp rfl)) ?_
  refine sq_nil ?_
  refine awp_seq ?_
  refine awp_seq ?_
  refine awp_region ?_
  refine sq_plain rfl rfl rfl (w_fldBn 0 rfl Try.underlying39 rfl Try.sizeOf3 (ev_tmp rfl) rfl) ?_
  refine sq_plain rfl rfl rfl (w_loadB1 0 rfl (ev_tmp rfl) rfl Try.isAgg3 rfl) ?_
  refine sq_nil ?_
  refine awp_block ?_
  refine awp_seq ?_
  refine awp_region ?_
  refine sq_plain rfl rfl rfl (w_eql rfl (ev_tmp rfl) ev_ci) ?_
  refine sq_plain rfl rfl rfl (w_assign rfl (ev_tmp rfl)) ?_
  refine sq_nil ?_
  refine awp_cond (ev_tmp rfl) ?_ ?_
  · intro h12
    have k12 := eq_of_beqt h12; try simp only [List.length_map] at k12
    refine awp_seq ?_
    refine awp_region ?_
    refine sq_plain rfl rfl rfl (w_fldBn 1 rfl Try.underlying39 rfl Try.sizeOf37 (ev_tmp rfl) rfl) ?_
    refine sq_plain rfl rfl rfl (w_fldBn 1 rfl Try.underlying37 rfl Try.sizeOf9 (ev_tmp rfl) rfl) ?_
    refine sq_plain rfl rfl rfl (w_loadB1 0 rfl (ev_tmp rfl) rfl Try.isAgg9 rfl) ?_
    refine sq_plain rfl rfl rfl (w_fldBn 1 rfl Try.underlying39 rfl Try.sizeOf37 (ev_tmp rfl) rfl) ?_
    refine sq_plain rfl rfl rfl (w_fldBn 2 rfl Try.underlying37 rfl Try.sizeOf9 (ev_tmp rfl) rfl) ?_
    refine sq_plain rfl rfl rfl (w_loadB1 0 rfl (ev_tmp rfl) rfl Try.isAgg9 rfl) ?_
    refine sq_plain rfl rfl rfl (w_fldBn 1 rfl Try.underlying39 rfl Try.sizeOf37 (ev_tmp rfl) rfl) ?_
    refine sq_plain rfl rfl rfl (w_fldBn 3 rfl Try.underlying37 rfl Try.sizeOf4 (ev_tmp rfl) rfl) ?_
    refine sq_plain rfl rfl rfl (w_loadB1 0 rfl (ev_tmp rfl) rfl Try.isAgg4 rfl) ?_
    refine sq_plain rfl rfl rfl (w_call rfl Try.call162 rfl (l3Write_spec _ _ _ (by omega) (by omega)) (evl_cons (ev_tmp rfl) (evl_cons (ev_tmp rfl) (evl_cons (ev_tmp rfl) evl_nil)))) ?_
    refine sq_plain rfl rfl rfl (w_move rfl (ev_tmp rfl)) ?_
    refine sq_grd rfl rfl (guard_t rfl rfl rfl) (fun hc => w_fldBn 0 rfl Try.underlying27 rfl Try.sizeOf9 (ev_tmp rfl) rfl) ?_
    refine sq_grd rfl rfl (guard_t rfl rfl rfl) (fun hc => w_loadB1 1 rfl (ev_whn rfl hc) rfl Try.isAgg9 rfl) ?_
    refine sq_grd rfl rfl (guard_t rfl rfl rfl) (fun hc => w_fldBn 1 rfl Try.underlying27 rfl Try.sizeOf9 (ev_tmp rfl) rfl) ?_
    refine sq_grd rfl rfl (guard_t rfl rfl rfl) (fun hc => w_loadB1 1 rfl (ev_whn rfl hc) rfl Try.isAgg9 rfl) ?_
    refine sq_grd rfl rfl (guard_t rfl rfl rfl) (fun hc => w_fldBn 1 rfl Try.underlying39 rfl Try.sizeOf37 (ev_tmp rfl) rfl) ?_
    refine sq_grd rfl rfl (guard_t rfl rfl rfl) (fun hc => w_fldBn 1 rfl Try.underlying37 rfl Try.sizeOf9 (ev_whn rfl hc) rfl) ?_
    refine sq_grd rfl rfl (guard_t rfl rfl rfl) (fun hc => w_loadB1 0 rfl (ev_whn rfl hc) rfl Try.isAgg9 rfl) ?_
    refine sq_grd rfl rfl (guard_t rfl rfl rfl) (fun hc => w_call rfl Try.call78 rfl (l22In_spec _ _ _) (evl_cons (ev_whn rfl hc) (evl_cons (ev_whn rfl hc) (evl_cons (ev_whn rfl hc) evl_nil)))) ?_
    refine sq_plain rfl rfl rfl (w_and rfl (ev_tmp rfl) (evif_w rfl)) ?_
    refine sq_plain rfl rfl rfl (w_move rfl (ev_tmp rfl)) ?_
    refine sq_grd rfl rfl (guard_t rfl rfl rfl) (fun hc => w_fldBn 4 rfl Try.underlying39 rfl Try.sizeOf3 (ev_tmp rfl) rfl) ?_
    refine sq_grd rfl rfl (guard_t rfl rfl rfl) (fun hc => w_loadB1 0 rfl (ev_whn rfl hc) rfl Try.isAgg3 rfl) ?_
    refine sq_grd rfl rfl (guard_t rfl rfl rfl) (fun hc => w_eql rfl (ev_whn rfl hc) ev_ci) ?_
    refine sq_plain rfl rfl rfl (w_and rfl (ev_tmp rfl) (evif_w rfl)) ?_
    refine sq_plain rfl rfl rfl (w_assign rfl (ev_tmp rfl)) ?_
    refine sq_nil ?_
    refine awp_ret ?_
    exact retR rfl (rv_tmp' rfl (by exact congrArg AV.bool (by unfold l22Good; simp_all [noWrite, wEq])))
  · intro h12
    have k12 := ne_of_beqf h12; try simp only [List.length_map] at k12
    refine awp_seq ?_
    refine awp_region ?_
    refine sq_plain rfl rfl rfl (w_eql rfl (ev_tmp rfl) ev_ci) ?_
    refine sq_plain rfl rfl rfl (w_assign rfl (ev_tmp rfl)) ?_
    refine sq_nil ?_
    refine awp_cond (ev_tmp rfl) ?_ ?_
    · intro h39
      have k39 := eq_of_beqt h39; try simp only [List.length_map] at k39
      refine awp_seq ?_
      refine awp_region ?_
      refine sq_plain rfl rfl rfl (w_move rfl (ev_tmp rfl)) ?_
      refine sq_plain rfl rfl rfl (w_move rfl (ev_tmp rfl)) ?_
      refine sq_grd rfl rfl (guard_t rfl rfl rfl) (fun hc => w_fldBn 4 rfl Try.underlying39 rfl Try.sizeOf3 (ev_tmp rfl) rfl) ?_
      refine sq_grd rfl rfl (guard_t rfl rfl rfl) (fun hc => w_loadB1 0 rfl (ev_whn rfl hc) rfl Try.isAgg3 rfl) ?_
      refine sq_grd rfl rfl (guard_t rfl rfl rfl) (fun hc => w_call rfl Try.call163 rfl (l29Many_spec _) (evl_cons (ev_whn rfl hc) evl_nil)) ?_
      refine sq_plain rfl rfl rfl (w_and rfl (ev_tmp rfl) (evif_w rfl)) ?_
      refine sq_plain rfl rfl rfl (w_assign rfl (ev_tmp rfl)) ?_
      refine sq_nil ?_
      refine awp_ret ?_
      exact retR rfl (rv_tmp' rfl (by exact congrArg AV.bool (by unfold l22Good; simp_all [noWrite, wEq])))
    · intro h39
      have k39 := ne_of_beqf h39; try simp only [List.length_map] at k39
      refine awp_seq ?_
      refine awp_seq ?_
      refine awp_region ?_
      refine sq_plain rfl rfl rfl (w_eql rfl (ev_tmp rfl) ev_ci) ?_
      refine sq_plain rfl rfl rfl (w_assign rfl (ev_tmp rfl)) ?_
      refine sq_nil ?_
      refine awp_cond (ev_tmp rfl) ?_ ?_
      · intro h47
        have k47 := eq_of_beqt h47; try simp only [List.length_map] at k47
        refine awp_skip ?_
        refine awp_cond (ev_tmp rfl) ?_ ?_
        · intro h47
          have k47 := eq_of_beqt h47; try simp only [List.length_map] at k47
          refine awp_seq ?_
          refine awp_region ?_
          refine sq_plain rfl rfl rfl (w_move rfl (ev_tmp rfl)) ?_
          refine sq_plain rfl rfl rfl (w_move rfl (ev_tmp rfl)) ?_
          refine sq_grd rfl rfl (guard_t rfl rfl rfl) (fun hc => w_fldBn 4 rfl Try.underlying39 rfl Try.sizeOf3 (ev_tmp rfl) rfl) ?_
          refine sq_grd rfl rfl (guard_t rfl rfl rfl) (fun hc => w_loadB1 0 rfl (ev_whn rfl hc) rfl Try.isAgg3 rfl) ?_
          refine sq_grd rfl rfl (guard_t rfl rfl rfl) (fun hc => w_eql rfl (ev_whn rfl hc) ev_ci) ?_
          refine sq_plain rfl rfl rfl (w_and rfl (ev_tmp rfl) (evif_w rfl)) ?_
          refine sq_plain rfl rfl rfl (w_assign rfl (ev_tmp rfl)) ?_
          refine sq_nil ?_
          refine awp_ret ?_
          exact retR rfl (rv_tmp' rfl (by exact congrArg AV.bool (by unfold l22Good; simp_all [noWrite, wEq])))
        · intro h47
          have k47 := ne_of_beqf h47; try simp only [List.length_map] at k47
          refine awp_skip ?_
          refine awp_seq ?_
          refine awp_region ?_
          refine sq_plain rfl rfl rfl (w_assign rfl ev_cb) ?_
          refine sq_nil ?_
          refine awp_ret ?_
          exact retR rfl (rv_tmp' rfl (by exact congrArg AV.bool (by unfold l22Good; simp_all [noWrite, wEq])))
      · intro h47
        have k47 := ne_of_beqf h47; try simp only [List.length_map] at k47
        refine awp_region ?_
        refine sq_plain rfl rfl rfl (w_eql rfl (ev_tmp rfl) ev_ci) ?_
        refine sq_plain rfl rfl rfl (w_assign rfl (ev_tmp rfl)) ?_
        refine sq_nil ?_
        refine awp_cond (ev_tmp rfl) ?_ ?_
        · intro h47
          have k47 := eq_of_beqt h47; try simp only [List.length_map] at k47
          refine awp_seq ?_
          refine awp_region ?_
          refine sq_plain rfl rfl rfl (w_move rfl (ev_tmp rfl)) ?_
          refine sq_plain rfl rfl rfl (w_move rfl (ev_tmp rfl)) ?_
          refine sq_grd rfl rfl (guard_t rfl rfl rfl) (fun hc => w_fldBn 4 rfl Try.underlying39 rfl Try.sizeOf3 (ev_tmp rfl) rfl) ?_
          refine sq_grd rfl rfl (guard_t rfl rfl rfl) (fun hc => w_loadB1 0 rfl (ev_whn rfl hc) rfl Try.isAgg3 rfl) ?_
          refine sq_grd rfl rfl (guard_t rfl rfl rfl) (fun hc => w_eql rfl (ev_whn rfl hc) ev_ci) ?_
          refine sq_plain rfl rfl rfl (w_and rfl (ev_tmp rfl) (evif_w rfl)) ?_
          refine sq_plain rfl rfl rfl (w_assign rfl (ev_tmp rfl)) ?_
          refine sq_nil ?_
          refine awp_ret ?_
          exact retR rfl (rv_tmp' rfl (by exact congrArg AV.bool (by unfold l22Good; simp_all [noWrite, wEq])))
        · intro h47
          have k47 := ne_of_beqf h47; try simp only [List.length_map] at k47
          refine awp_skip ?_
          refine awp_seq ?_
          refine awp_region ?_
          refine sq_plain rfl rfl rfl (w_assign rfl ev_cb) ?_
          refine sq_nil ?_
          refine awp_ret ?_
          exact retR rfl (rv_tmp' rfl (by exact congrArg AV.bool (by unfold l22Good; simp_all [noWrite, wEq])))
theorem goodMoveAct_spec (m : TMove) (a : TMoveAct) (hm : m.size ≤ 1048576) (hs : a.size ≤ 1048576) : FSpec Try.prog 82 [AV.agg m.cs, AV.agg a.cs] (AV.bool (goodMove m && isMoveAct m a)) := by
  refine spec_of_awp Try.func82 rfl Try.ntmps82 rfl ?_
  refine awp_seq ?_
  refine awp_region ?_
  refine sq_box rfl rfl rfl rfl (ev_tmp rfl) ?_
  intro b2
  refine sq_box rfl rfl rfl rfl (ev_tmp rfl) ?_
  intro b3
  refine sq_plain rfl rfl rfl (w_assign rfl ev_cb) ?_
  refine sq_nil ?_
  refine awp_seq ?_
  refine awp_region ?_
  refine sq_plain rfl rfl rfl (w_loadA 1 rfl (ev_tmp rfl) rfl Try.isAgg27 Try.sizeOf27 rfl) ?_
  refine sq_plain rfl rfl rfl (w_call rfl Try.call71 rfl (goodMove_spec _ (by first | assumption | omega)) (evl_cons (ev_tmp rfl) evl_nil)) ?_
  refine sq_plain rfl rfl rfl (w_move rfl (ev_tmp rfl)) ?_
  refine sq_grd rfl rfl (guard_t rfl rfl rfl) (fun hc => w_loadA 1 rfl (ev_tmp rfl) rfl Try.isAgg27 Try.sizeOf27 rfl) ?_
  refine sq_grd rfl rfl (guard_t rfl rfl rfl) (fun hc => w_loadA 0 rfl (ev_tmp rfl) rfl Try.isAgg39 Try.sizeOf39 rfl) ?_
  refine sq_grd rfl rfl (guard_t rfl rfl rfl) (fun hc => w_call rfl Try.call87 rfl (isMoveAct_spec _ _ (by assumption)) (evl_cons (ev_whn rfl hc) (evl_cons (ev_whn rfl hc) evl_nil))) ?_
  refine sq_plain rfl rfl rfl (w_and rfl (ev_tmp rfl) (evif_w rfl)) ?_
  refine sq_plain rfl rfl rfl (w_assign rfl (ev_tmp rfl)) ?_
  refine sq_nil ?_
  refine awp_ret ?_
  exact retR rfl (rv_tmp' rfl (by first | rfl | (refine congrArg AV.bool ?_; simp_all; done)))
end Go.Proofs.Ytdbmaekdejhobaa
