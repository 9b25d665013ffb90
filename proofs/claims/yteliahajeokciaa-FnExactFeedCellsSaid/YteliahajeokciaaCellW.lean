/- Walks: cells read. -/
import Derived.Test.YteliahajeokciaaCellM
import Derived.Test.YteliahajeokciaaMove3W
set_option linter.unusedVariables false
set_option linter.unusedSimpArgs false
set_option maxRecDepth 100000
namespace Go.Proofs.Yteliahajeokciaa
open Go Go.AV Go.M
attribute [local irreducible] OpW OpA OpS AWP FSpec ESpec RetOk RvDen Le Ev GuardIs
theorem cell_len {c : TCell} {n : Nat} (h : c.size ≤ n) : c.Key.length ≤ n ∧ c.Vers.length ≤ n ∧ sizeL TVer.size c.Vers ≤ n := by
  unfold TCell.size at h
  have : c.Vers.length ≤ n := Nat.le_trans sizeL_len (show sizeL TVer.size c.Vers ≤ n by omega)
  omega
theorem isTrue_spec (t : Int) : FSpec Try.prog 141 [AV.int t] (AV.bool (isTrue t)) := by
  refine spec_of_awp Try.func141 rfl Try.ntmps141 rfl ?_
  refine awp_seq ?_
  refine awp_region ?_
  refine sq_plain rfl rfl rfl (w_assign rfl ev_cb) ?_
  refine sq_nil ?_
  refine awp_seq ?_
  refine awp_region ?_
  refine sq_plain rfl rfl rfl (w_move rfl (ev_tmp rfl)) ?_
  refine sq_plain rfl rfl rfl (w_call rfl Try.call108 rfl (within_spec _ _ _) (evl_cons (ev_tmp rfl) (evl_cons ev_ci (evl_cons ev_ci evl_nil)))) ?_
  refine sq_plain rfl rfl rfl (w_assign rfl (ev_tmp rfl)) ?_
  refine sq_nil ?_
  refine awp_ret ?_
  exact retR rfl (rv_tmp' rfl (by first | rfl | (refine congrArg AV.bool ?_; simp_all; done)))
theorem l3Time_spec (t : Int) : FSpec Try.prog 158 [AV.int t] (AV.bool (within t 1 100000)) := by
  refine spec_of_awp Try.func158 rfl Try.ntmps158 rfl ?_
  refine awp_seq ?_
  refine awp_region ?_
  refine sq_plain rfl rfl rfl (w_assign rfl ev_cb) ?_
  refine sq_nil ?_
  refine awp_seq ?_
  refine awp_region ?_
  refine sq_plain rfl rfl rfl (w_move rfl (ev_tmp rfl)) ?_
  refine sq_plain rfl rfl rfl (w_call rfl Try.call110 rfl (l1In_spec _ _ _) (evl_cons (ev_tmp rfl) (evl_cons ev_ci (evl_cons ev_ci evl_nil)))) ?_
  refine sq_plain rfl rfl rfl (w_assign rfl (ev_tmp rfl)) ?_
  refine sq_nil ?_
  refine awp_ret ?_
  exact retR rfl (rv_tmp' rfl (by first | rfl | (refine congrArg AV.bool ?_; simp_all; done)))
theorem l2True_spec (t : Int) : FSpec Try.prog 144 [AV.int t] (AV.bool (isTrue t)) := by
  refine spec_of_awp Try.func144 rfl Try.ntmps144 rfl ?_
  refine awp_seq ?_
  refine awp_region ?_
  refine sq_plain rfl rfl rfl (w_assign rfl ev_cb) ?_
  refine sq_nil ?_
  refine awp_seq ?_
  refine awp_region ?_
  refine sq_plain rfl rfl rfl (w_move rfl (ev_tmp rfl)) ?_
  refine sq_plain rfl rfl rfl (w_call rfl Try.call110 rfl (l1In_spec _ _ _) (evl_cons (ev_tmp rfl) (evl_cons ev_ci (evl_cons ev_ci evl_nil)))) ?_
  refine sq_plain rfl rfl rfl (w_assign rfl (ev_tmp rfl)) ?_
  refine sq_nil ?_
  refine awp_ret ?_
  exact retR rfl (rv_tmp' rfl (by first | rfl | (refine congrArg AV.bool ?_; simp_all; done)))
theorem isCell_spec (c : TCell) (hs : c.size ≤ 4194304) : FSpec Try.prog 146 [AV.agg c.cs] (AV.bool (isCell c)) := by
  have hcl := cell_len hs
  refine spec_of_awp Try.func146 rfl Try.ntmps146 rfl ?_
  refine awp_seq ?_
  refine awp_region ?_
  refine sq_box rfl rfl rfl rfl (ev_tmp rfl) ?_
  intro b1
  refine sq_plain rfl rfl rfl (w_assign rfl ev_cb) ?_
  refine sq_nil ?_
  refine awp_seq ?_
  refine awp_seq ?_
  refine awp_region ?_
  refine sq_plain rfl rfl rfl (w_fldBn 1 rfl Try.underlying153 rfl Try.sizeOf151 (ev_tmp rfl) rfl) ?_
  refine sq_plain rfl rfl rfl (w_loadB1 0 rfl (ev_tmp rfl) rfl Try.isAgg151 rfl) ?_
  refine sq_plain rfl rfl rfl (w_llen rfl Try.underlying151 (ev_tmp rfl)) ?_
  refine sq_plain rfl rfl rfl (w_move rfl ev_ci) ?_
  refine sq_nil ?_
  refine awp_block ?_
  refine awp_loop_i [(1, _), (6, _), (7, _)] _ (fun (i : Nat) => i ≤ c.Vers.length ∧ (c.Vers.all verGood && adj verLess c.Vers) = ((c.Vers.drop i).all verGood && adj verLess (c.Vers.drop (i - 1)))) (fun (i : Nat) => []) (fun (i : Nat) => [(8, AV.int i)]) (fun (i : Nat) => c.Vers.length - i) (0) ?_ (le_env ⟨rfl, rfl, rfl, rfl, trivial⟩) ?_
  · exact ⟨Nat.zero_le _, rfl⟩
  intro i hinv
  refine awp_seq ?_
  refine awp_region ?_
  refine sq_plain rfl rfl rfl (w_lss rfl (ev_tmp rfl) (ev_tmp rfl)) ?_
  refine sq_nil ?_
  refine awp_seq ?_
  refine awp_cond (ev_tmp rfl) ?_ ?_
  · intro h9
    have k9 := of_decide_eq_true h9; try simp only [List.length_map] at k9
    have hlt : i < c.Vers.length := by omega
    obtain ⟨x, hx⟩ := get_some hlt
    obtain ⟨y, hy⟩ := get_some (show i - 1 < c.Vers.length by omega)
    have hsx : x.size ≤ 4194304 := Nat.le_trans (sizeL_get hx) hcl.2.2
    unfold TVer.size at hsx
    refine awp_skip ?_
    refine awp_seq ?_
    refine awp_block ?_
    refine awp_seq ?_
    refine awp_region ?_
    refine sq_plain rfl rfl rfl (w_move rfl (ev_tmp rfl)) ?_
    refine sq_plain rfl rfl rfl (w_idxm rfl Try.underlying151 Try.sizeOf155 (ev_tmp rfl) (ev_tmp rfl) hx (by first | omega | ((try simp only [List.length_map, List.length_take, List.length_cons, List.length_nil, chunks_len, szR] at *); omega) | (have hc2 := hc; simp only [Bool.and_eq_true, Bool.or_eq_true, Bool.or_eq_false_iff, Bool.and_eq_false_iff, Bool.not_eq_true', Bool.not_eq_false', decide_eq_true_eq, decide_eq_false_iff_not, beq_iff_eq, bne_iff_ne, List.length_map, List.length_take] at hc2; omega))) ?_
    refine sq_plain rfl rfl rfl (w_loadE rfl (ev_tmp rfl) Try.isAgg155 Try.sizeOf155) ?_
    refine sq_alloc rfl rfl rfl rfl Try.zeroValue155 rfl ?_
    intro b4
    refine sq_plain rfl rfl rfl (w_assign rfl (ev_tmp rfl)) ?_
    refine sq_storeB0 0 rfl rfl rfl (ev_tmp rfl) (ev_tmp rfl) (as_agg _) rfl Try.sizeOf155 rfl ?_
    refine sq_nil ?_
    refine awp_seq ?_
    refine awp_region_any (by kernel_rfl) (by kernel_rfl) rfl ?_
    refine ch_plain rfl rfl (w_fldBn 0 rfl Try.underlying155 rfl Try.sizeOf3 (ev_tmp rfl) rfl) ?_
    refine ch_plain rfl rfl (w_loadB1 0 rfl (ev_tmp rfl) rfl Try.isAgg3 rfl) ?_
    refine ch_plain rfl rfl (w_call rfl Try.call155 rfl (isTime_spec _) (evl_cons (ev_tmp rfl) evl_nil)) ?_
    refine ch_plain rfl rfl (w_not rfl (ev_tmp rfl)) ?_
    refine ch_plain rfl rfl (w_move rfl (ev_tmp rfl)) ?_
    refine ch_grd rfl (guard_f rfl rfl rfl) (fun hc => w_fldBn 1 rfl Try.underlying155 rfl Try.sizeOf9 (ev_tmp rfl) rfl) ?_
    refine ch_grd rfl (guard_f rfl rfl rfl) (fun hc => w_loadB1 0 rfl (ev_whn rfl hc) rfl Try.isAgg9 rfl) ?_
    refine ch_grd rfl (guard_f rfl rfl rfl) (fun hc => w_fldBn 2 rfl Try.underlying155 rfl Try.sizeOf4 (ev_tmp rfl) rfl) ?_
    refine ch_grd rfl (guard_f rfl rfl rfl) (fun hc => w_loadB1 0 rfl (ev_whn rfl hc) rfl Try.isAgg4 rfl) ?_
    refine ch_grd rfl (guard_f rfl rfl rfl) (fun hc => w_call rfl Try.call163 rfl (isStored_spec _ _ (by omega)) (evl_cons (ev_whn rfl hc) (evl_cons (ev_whn rfl hc) evl_nil))) ?_
    refine ch_grd rfl (guard_f rfl rfl rfl) (fun hc => w_not rfl (ev_whn rfl hc)) ?_
    refine ch_plain rfl rfl (w_or rfl (ev_tmp rfl) (evif_w rfl)) ?_
    refine ch_plain rfl rfl (w_move rfl (ev_tmp rfl)) ?_
    refine ch_grd rfl (guard_f rfl rfl rfl) (fun hc => w_move rfl (ev_tmp rfl)) ?_
    refine ch_grd rfl (guard_f rfl rfl rfl) (fun hc => w_gtr rfl (ev_whn rfl hc) ev_ci) ?_
    refine ch_grd rfl (guard_f rfl rfl rfl) (fun hc => w_move rfl (ev_whn rfl hc)) ?_
    refine ch_grd rfl (guard_wt rfl rfl rfl) (fun hc => w_fldBn 0 rfl Try.underlying155 rfl Try.sizeOf3 (ev_tmp rfl) rfl) ?_
    refine ch_grd rfl (guard_wt rfl rfl rfl) (fun hc => w_loadB1 0 rfl (ev_whn rfl hc) rfl Try.isAgg3 rfl) ?_
    refine ch_grd rfl (guard_wt rfl rfl rfl) (fun hc => w_fldBn 1 rfl Try.underlying153 rfl Try.sizeOf151 (ev_tmp rfl) rfl) ?_
    refine ch_grd rfl (guard_wt rfl rfl rfl) (fun hc => w_loadB1 1 rfl (ev_whn rfl hc) rfl Try.isAgg151 rfl) ?_
    refine ch_grd rfl (guard_wt rfl rfl rfl) (fun hc => w_move rfl (ev_tmp rfl)) ?_
    refine ch_grd rfl (guard_wt rfl rfl rfl) (fun hc => w_subi rfl (ev_whn rfl hc) ev_ci (by first | omega | ((try simp only [List.length_map, List.length_take, List.length_cons, List.length_nil, chunks_len, szR] at *); omega) | (have hc2 := hc; simp only [Bool.and_eq_true, Bool.or_eq_true, Bool.or_eq_false_iff, Bool.and_eq_false_iff, Bool.not_eq_true', Bool.not_eq_false', decide_eq_true_eq, decide_eq_false_iff_not, beq_iff_eq, bne_iff_ne, List.length_map, List.length_take] at hc2; omega))) ?_
    refine ch_grd rfl (guard_wt rfl rfl rfl) (fun hc => w_idxm rfl Try.underlying151 Try.sizeOf155 (ev_whn rfl hc) (ev_whn rfl hc) hy (by first | omega | ((try simp only [List.length_map, List.length_take, List.length_cons, List.length_nil, chunks_len, szR] at *); omega) | (have hc2 := hc; simp only [Bool.and_eq_true, Bool.or_eq_true, Bool.or_eq_false_iff, Bool.and_eq_false_iff, Bool.not_eq_true', Bool.not_eq_false', decide_eq_true_eq, decide_eq_false_iff_not, beq_iff_eq, bne_iff_ne, List.length_map, List.length_take] at hc2; omega))) ?_
    refine ch_grd rfl (guard_wt rfl rfl rfl) (fun hc => w_fldE rfl Try.underlying155 rfl Try.sizeOf3 (ev_whn rfl hc) rfl) ?_
    refine ch_grd rfl (guard_wt rfl rfl rfl) (fun hc => w_loadE1 rfl (ev_whn rfl hc) Try.isAgg3 rfl) ?_
    refine ch_grd rfl (guard_wt rfl rfl rfl) (fun hc => w_leq rfl (ev_whn rfl hc) (ev_whn rfl hc)) ?_
    refine ch_grd rfl (guard_f rfl rfl rfl) (fun hc => w_and rfl (ev_whn rfl hc) (evif_w2 rfl hc)) ?_
    refine ch_plain rfl rfl (w_or rfl (ev_tmp rfl) (evif_w rfl)) ?_
    refine ch_nil ?_
    refine awp_cond (ev_tmp rfl) ?_ ?_
    · intro h40
      have hfin : isCell c = false := by unfold isCell; rw [hinv.2]; cases hg : verGood x with | false => (rw [all_stop hx hg]; simp) | true => (have hb : 0 < i ∧ verLess y x = false := (by unfold verGood at hg; unfold verLess; simp_all; try grind); rw [adj_stop hx hy hb.1 hb.2]; simp)
      refine awp_seq ?_
      refine awp_region ?_
      refine sq_plain rfl rfl rfl (w_assign rfl ev_cb) ?_
      refine sq_nil ?_
      refine awp_ret ?_
      exact retR rfl (rv_tmp' rfl (by first | exact congrArg AV.bool hfin.symm | exact congrArg AV.bool (by unfold isCell; rw [hinv.2, all_end hge, adj_end hge]; simp)))
    · intro h40
      have hg : verGood x = true ∧ (0 < i → verLess y x = true) := by unfold verGood verLess; simp_all
      refine awp_skip ?_
      refine awp_region ?_
      refine sq_plain rfl rfl rfl (w_addi rfl (ev_tmp rfl) ev_ci (by first | omega | ((try simp only [List.length_map, List.length_take, List.length_cons, List.length_nil, chunks_len, szR] at *); omega) | (have hc2 := hc; simp only [Bool.and_eq_true, Bool.or_eq_true, Bool.or_eq_false_iff, Bool.and_eq_false_iff, Bool.not_eq_true', Bool.not_eq_false', decide_eq_true_eq, decide_eq_false_iff_not, beq_iff_eq, bne_iff_ne, List.length_map, List.length_take] at hc2; omega))) ?_
      refine sq_plain rfl rfl rfl (w_move rfl (ev_tmp rfl)) ?_
      refine sq_nil ?_
      refine round_end i (i + 1) ?_ ?_ (le_drop 1 ⟨rfl, rfl, rfl, rfl, trivial⟩)
      · exact ⟨by omega, by rw [hinv.2, all_step hx hg.1, adj_step hx hy hg.2]⟩
      · omega
  · intro h9
    have k9 := of_decide_eq_false h9; try simp only [List.length_map] at k9
    have hge : c.Vers.length ≤ i := by omega
    refine awp_exit ?_
    refine awp_seq ?_
    refine awp_region ?_
    refine sq_plain rfl rfl rfl (w_fldBn 1 rfl Try.underlying153 rfl Try.sizeOf151 (ev_tmp rfl) rfl) ?_
    refine sq_plain rfl rfl rfl (w_loadB1 0 rfl (ev_tmp rfl) rfl Try.isAgg151 rfl) ?_
    refine sq_plain rfl rfl rfl (w_llen rfl Try.underlying151 (ev_tmp rfl)) ?_
    refine sq_plain rfl rfl rfl (w_call rfl Try.call108 rfl (within_spec _ _ _) (evl_cons (ev_tmp rfl) (evl_cons ev_ci (evl_cons ev_ci evl_nil)))) ?_
    refine sq_plain rfl rfl rfl (w_assign rfl (ev_tmp rfl)) ?_
    refine sq_nil ?_
    refine awp_ret ?_
    exact retR rfl (rv_tmp' rfl (by first | exact congrArg AV.bool hfin.symm | exact congrArg AV.bool (by unfold isCell; rw [hinv.2, all_end hge, adj_end hge]; simp)))
theorem l3Cell_spec (c : TCell) (hs : c.size ≤ 4194304) : FSpec Try.prog 232 [AV.agg c.cs] (AV.bool (l3Cell c)) := by
  have hcl := cell_len hs
  refine spec_of_awp Try.func232 rfl Try.ntmps232 rfl ?_
  refine awp_seq ?_
  refine awp_region ?_
  refine sq_box rfl rfl rfl rfl (ev_tmp rfl) ?_
  intro b1
  refine sq_plain rfl rfl rfl (w_assign rfl ev_cb) ?_
  refine sq_nil ?_
  refine awp_seq ?_
  refine awp_seq ?_
  refine awp_region ?_
  refine sq_plain rfl rfl rfl (w_fldBn 1 rfl Try.underlying153 rfl Try.sizeOf151 (ev_tmp rfl) rfl) ?_
  refine sq_plain rfl rfl rfl (w_loadB1 0 rfl (ev_tmp rfl) rfl Try.isAgg151 rfl) ?_
  refine sq_plain rfl rfl rfl (w_llen rfl Try.underlying151 (ev_tmp rfl)) ?_
  refine sq_plain rfl rfl rfl (w_move rfl ev_ci) ?_
  refine sq_nil ?_
  refine awp_block ?_
  refine awp_loop_i [(1, _), (6, _), (7, _)] _ (fun (i : Nat) => i ≤ c.Vers.length ∧ (c.Vers.all (verGoodS c.Key) && adj verLess c.Vers) = ((c.Vers.drop i).all (verGoodS c.Key) && adj verLess (c.Vers.drop (i - 1)))) (fun (i : Nat) => []) (fun (i : Nat) => [(8, AV.int i)]) (fun (i : Nat) => c.Vers.length - i) (0) ?_ (le_env ⟨rfl, rfl, rfl, rfl, trivial⟩) ?_
  · exact ⟨Nat.zero_le _, rfl⟩
  intro i hinv
  refine awp_seq ?_
  refine awp_region ?_
  refine sq_plain rfl rfl rfl (w_lss rfl (ev_tmp rfl) (ev_tmp rfl)) ?_
  refine sq_nil ?_
  refine awp_seq ?_
  refine awp_cond (ev_tmp rfl) ?_ ?_
  · intro h9
    have k9 := of_decide_eq_true h9; try simp only [List.length_map] at k9
    have hlt : i < c.Vers.length := by omega
    obtain ⟨x, hx⟩ := get_some hlt
    obtain ⟨y, hy⟩ := get_some (show i - 1 < c.Vers.length by omega)
    have hsx : x.size ≤ 4194304 := Nat.le_trans (sizeL_get hx) hcl.2.2
    unfold TVer.size at hsx
    refine awp_skip ?_
    refine awp_seq ?_
    refine awp_block ?_
    refine awp_seq ?_
    refine awp_region ?_
    refine sq_plain rfl rfl rfl (w_move rfl (ev_tmp rfl)) ?_
    refine sq_plain rfl rfl rfl (w_idxm rfl Try.underlying151 Try.sizeOf155 (ev_tmp rfl) (ev_tmp rfl) hx (by first | omega | ((try simp only [List.length_map, List.length_take, List.length_cons, List.length_nil, chunks_len, szR] at *); omega) | (have hc2 := hc; simp only [Bool.and_eq_true, Bool.or_eq_true, Bool.or_eq_false_iff, Bool.and_eq_false_iff, Bool.not_eq_true', Bool.not_eq_false', decide_eq_true_eq, decide_eq_false_iff_not, beq_iff_eq, bne_iff_ne, List.length_map, List.length_take] at hc2; omega))) ?_
    refine sq_plain rfl rfl rfl (w_loadE rfl (ev_tmp rfl) Try.isAgg155 Try.sizeOf155) ?_
    refine sq_alloc rfl rfl rfl rfl Try.zeroValue155 rfl ?_
    intro b4
    refine sq_plain rfl rfl rfl (w_assign rfl (ev_tmp rfl)) ?_
    refine sq_storeB0 0 rfl rfl rfl (ev_tmp rfl) (ev_tmp rfl) (as_agg _) rfl Try.sizeOf155 rfl ?_
    refine sq_nil ?_
    refine awp_seq ?_
    refine awp_region_any (by kernel_rfl) (by kernel_rfl) rfl ?_
    refine ch_plain rfl rfl (w_fldBn 0 rfl Try.underlying155 rfl Try.sizeOf3 (ev_tmp rfl) rfl) ?_
    refine ch_plain rfl rfl (w_loadB1 0 rfl (ev_tmp rfl) rfl Try.isAgg3 rfl) ?_
    refine ch_plain rfl rfl (w_call rfl Try.call158 rfl (l3Time_spec _) (evl_cons (ev_tmp rfl) evl_nil)) ?_
    refine ch_plain rfl rfl (w_not rfl (ev_tmp rfl)) ?_
    refine ch_plain rfl rfl (w_move rfl (ev_tmp rfl)) ?_
    refine ch_grd rfl (guard_f rfl rfl rfl) (fun hc => w_fldBn 0 rfl Try.underlying153 rfl Try.sizeOf9 (ev_tmp rfl) rfl) ?_
    refine ch_grd rfl (guard_f rfl rfl rfl) (fun hc => w_loadB1 1 rfl (ev_whn rfl hc) rfl Try.isAgg9 rfl) ?_
    refine ch_grd rfl (guard_f rfl rfl rfl) (fun hc => w_fldBn 1 rfl Try.underlying155 rfl Try.sizeOf9 (ev_tmp rfl) rfl) ?_
    refine ch_grd rfl (guard_f rfl rfl rfl) (fun hc => w_loadB1 0 rfl (ev_whn rfl hc) rfl Try.isAgg9 rfl) ?_
    refine ch_grd rfl (guard_f rfl rfl rfl) (fun hc => w_fldBn 2 rfl Try.underlying155 rfl Try.sizeOf4 (ev_tmp rfl) rfl) ?_
    refine ch_grd rfl (guard_f rfl rfl rfl) (fun hc => w_loadB1 0 rfl (ev_whn rfl hc) rfl Try.isAgg4 rfl) ?_
    refine ch_grd rfl (guard_f rfl rfl rfl) (fun hc => w_call rfl Try.call242 rfl (l3Write_spec _ _ _ (by omega) (by omega)) (evl_cons (ev_whn rfl hc) (evl_cons (ev_whn rfl hc) (evl_cons (ev_whn rfl hc) evl_nil)))) ?_
    refine ch_grd rfl (guard_f rfl rfl rfl) (fun hc => w_not rfl (ev_whn rfl hc)) ?_
    refine ch_plain rfl rfl (w_or rfl (ev_tmp rfl) (evif_w rfl)) ?_
    refine ch_plain rfl rfl (w_move rfl (ev_tmp rfl)) ?_
    refine ch_grd rfl (guard_f rfl rfl rfl) (fun hc => w_move rfl (ev_tmp rfl)) ?_
    refine ch_grd rfl (guard_f rfl rfl rfl) (fun hc => w_gtr rfl (ev_whn rfl hc) ev_ci) ?_
    refine ch_grd rfl (guard_f rfl rfl rfl) (fun hc => w_move rfl (ev_whn rfl hc)) ?_
    refine ch_grd rfl (guard_wt rfl rfl rfl) (fun hc => w_fldBn 1 rfl Try.underlying153 rfl Try.sizeOf151 (ev_tmp rfl) rfl) ?_
    refine ch_grd rfl (guard_wt rfl rfl rfl) (fun hc => w_loadB1 1 rfl (ev_whn rfl hc) rfl Try.isAgg151 rfl) ?_
    refine ch_grd rfl (guard_wt rfl rfl rfl) (fun hc => w_move rfl (ev_tmp rfl)) ?_
    refine ch_grd rfl (guard_wt rfl rfl rfl) (fun hc => w_subi rfl (ev_whn rfl hc) ev_ci (by first | omega | ((try simp only [List.length_map, List.length_take, List.length_cons, List.length_nil, chunks_len, szR] at *); omega) | (have hc2 := hc; simp only [Bool.and_eq_true, Bool.or_eq_true, Bool.or_eq_false_iff, Bool.and_eq_false_iff, Bool.not_eq_true', Bool.not_eq_false', decide_eq_true_eq, decide_eq_false_iff_not, beq_iff_eq, bne_iff_ne, List.length_map, List.length_take] at hc2; omega))) ?_
    refine ch_grd rfl (guard_wt rfl rfl rfl) (fun hc => w_idxm rfl Try.underlying151 Try.sizeOf155 (ev_whn rfl hc) (ev_whn rfl hc) hy (by first | omega | ((try simp only [List.length_map, List.length_take, List.length_cons, List.length_nil, chunks_len, szR] at *); omega) | (have hc2 := hc; simp only [Bool.and_eq_true, Bool.or_eq_true, Bool.or_eq_false_iff, Bool.and_eq_false_iff, Bool.not_eq_true', Bool.not_eq_false', decide_eq_true_eq, decide_eq_false_iff_not, beq_iff_eq, bne_iff_ne, List.length_map, List.length_take] at hc2; omega))) ?_
    refine ch_grd rfl (guard_wt rfl rfl rfl) (fun hc => w_fldE rfl Try.underlying155 rfl Try.sizeOf3 (ev_whn rfl hc) rfl) ?_
    refine ch_grd rfl (guard_wt rfl rfl rfl) (fun hc => w_loadE1 rfl (ev_whn rfl hc) Try.isAgg3 rfl) ?_
    refine ch_grd rfl (guard_wt rfl rfl rfl) (fun hc => w_fldBn 0 rfl Try.underlying155 rfl Try.sizeOf3 (ev_tmp rfl) rfl) ?_
    refine ch_grd rfl (guard_wt rfl rfl rfl) (fun hc => w_loadB1 0 rfl (ev_whn rfl hc) rfl Try.isAgg3 rfl) ?_
    refine ch_grd rfl (guard_wt rfl rfl rfl) (fun hc => w_geq rfl (ev_whn rfl hc) (ev_whn rfl hc)) ?_
    refine ch_grd rfl (guard_f rfl rfl rfl) (fun hc => w_and rfl (ev_whn rfl hc) (evif_w2 rfl hc)) ?_
    refine ch_plain rfl rfl (w_or rfl (ev_tmp rfl) (evif_w rfl)) ?_
    refine ch_nil ?_
    refine awp_cond (ev_tmp rfl) ?_ ?_
    · intro h42
      have hfin : l3Cell c = false := by unfold l3Cell; rw [hinv.2]; cases hg : verGoodS c.Key x with | false => (rw [all_stop hx hg]; simp) | true => (have hb : 0 < i ∧ verLess y x = false := (by unfold verGoodS at hg; unfold verLess; simp_all; try grind); rw [adj_stop hx hy hb.1 hb.2]; simp)
      refine awp_seq ?_
      refine awp_region ?_
      refine sq_plain rfl rfl rfl (w_assign rfl ev_cb) ?_
      refine sq_nil ?_
      refine awp_ret ?_
      exact retR rfl (rv_tmp' rfl (by first | exact congrArg AV.bool hfin.symm | exact congrArg AV.bool (by unfold l3Cell; rw [hinv.2, all_end hge, adj_end hge]; simp)))
    · intro h42
      have hg : verGoodS c.Key x = true ∧ (0 < i → verLess y x = true) := by unfold verGoodS verLess; simp_all
      refine awp_skip ?_
      refine awp_region ?_
      refine sq_plain rfl rfl rfl (w_addi rfl (ev_tmp rfl) ev_ci (by first | omega | ((try simp only [List.length_map, List.length_take, List.length_cons, List.length_nil, chunks_len, szR] at *); omega) | (have hc2 := hc; simp only [Bool.and_eq_true, Bool.or_eq_true, Bool.or_eq_false_iff, Bool.and_eq_false_iff, Bool.not_eq_true', Bool.not_eq_false', decide_eq_true_eq, decide_eq_false_iff_not, beq_iff_eq, bne_iff_ne, List.length_map, List.length_take] at hc2; omega))) ?_
      refine sq_plain rfl rfl rfl (w_move rfl (ev_tmp rfl)) ?_
      refine sq_nil ?_
      refine round_end i (i + 1) ?_ ?_ (le_drop 1 ⟨rfl, rfl, rfl, rfl, trivial⟩)
      · exact ⟨by omega, by rw [hinv.2, all_step hx hg.1, adj_step hx hy hg.2]⟩
      · omega
  · intro h9
    have k9 := of_decide_eq_false h9; try simp only [List.length_map] at k9
    have hge : c.Vers.length ≤ i := by omega
    refine awp_exit ?_
    refine awp_seq ?_
    refine awp_region ?_
    refine sq_plain rfl rfl rfl (w_fldBn 0 rfl Try.underlying153 rfl Try.sizeOf9 (ev_tmp rfl) rfl) ?_
    refine sq_plain rfl rfl rfl (w_loadB1 0 rfl (ev_tmp rfl) rfl Try.isAgg9 rfl) ?_
    refine sq_plain rfl rfl rfl (w_call rfl Try.call166 rfl (l3Key_spec _ (by omega)) (evl_cons (ev_tmp rfl) evl_nil)) ?_
    refine sq_plain rfl rfl rfl (w_move rfl (ev_tmp rfl)) ?_
    refine sq_grd rfl rfl (guard_t rfl rfl rfl) (fun hc => w_fldBn 1 rfl Try.underlying153 rfl Try.sizeOf151 (ev_tmp rfl) rfl) ?_
    refine sq_grd rfl rfl (guard_t rfl rfl rfl) (fun hc => w_loadB1 0 rfl (ev_whn rfl hc) rfl Try.isAgg151 rfl) ?_
    refine sq_grd rfl rfl (guard_t rfl rfl rfl) (fun hc => w_llen rfl Try.underlying151 (ev_whn rfl hc)) ?_
    refine sq_grd rfl rfl (guard_t rfl rfl rfl) (fun hc => w_call rfl Try.call110 rfl (l1In_spec _ _ _) (evl_cons (ev_whn rfl hc) (evl_cons ev_ci (evl_cons ev_ci evl_nil)))) ?_
    refine sq_plain rfl rfl rfl (w_and rfl (ev_tmp rfl) (evif_w rfl)) ?_
    refine sq_plain rfl rfl rfl (w_assign rfl (ev_tmp rfl)) ?_
    refine sq_nil ?_
    refine awp_ret ?_
    exact retR rfl (rv_tmp' rfl (by first | exact congrArg AV.bool hfin.symm | exact congrArg AV.bool (by unfold l3Cell; rw [hinv.2, all_end hge, adj_end hge]; simp)))
theorem goodCells_spec (l : List TCell) (hs : sizeL TCell.size l ≤ 4194304) : FSpec Try.prog 49 [AV.list 2 (l.map TCell.cs)] (AV.bool (goodCells l)) := by
  have hl : l.length ≤ 4194304 := Nat.le_trans sizeL_len hs
  have hks : ∀ k ∈ cKeys l, k.length ≤ 4611686018427387904 := fun k hk => by
    obtain ⟨w, hw, rfl⟩ := List.mem_map.1 hk
    have := cell_len (Nat.le_trans (sizeL_mem hw) hs)
    omega
  refine spec_of_awp Try.func49 rfl Try.ntmps49 rfl ?_
  refine awp_seq ?_
  refine awp_region ?_
  refine sq_plain rfl rfl rfl (w_assign rfl ev_cb) ?_
  refine sq_nil ?_
  refine awp_seq ?_
  refine awp_region ?_
  refine sq_emptyarr rfl rfl rfl rfl Try.underlying29 Try.sizeOf9 ?_
  intro v6
  refine sq_plain rfl rfl rfl (w_assign rfl (ev_tmp rfl)) ?_
  refine sq_nil ?_
  refine awp_seq ?_
  refine awp_seq ?_
  refine awp_region ?_
  refine sq_plain rfl rfl rfl (w_move rfl (ev_tmp rfl)) ?_
  refine sq_plain rfl rfl rfl (w_llen rfl Try.underlying53 (ev_tmp rfl)) ?_
  refine sq_plain rfl rfl rfl (w_move rfl ev_ci) ?_
  refine sq_nil ?_
  refine awp_block ?_
  refine awp_loop_i2 [(0, _), (7, _), (8, _)] _ (fun (i : Nat) (v : Value) => i ≤ l.length ∧ l.all isCell = (l.drop i).all isCell) (fun (i : Nat) (v : Value) => [.arr v 9 1 ((l.take i).map fun w => [AV.str w.Key])]) (fun (i : Nat) (v : Value) => [(3, AV.is v), (9, AV.int i)]) (fun (i : Nat) (v : Value) => l.length - i) (0) (v6) ?_ (le_eq (by rfl) ⟨rfl, rfl, rfl, rfl, rfl, trivial⟩) ?_
  · exact ⟨Nat.zero_le _, rfl⟩
  intro i v hinv
  refine awp_seq ?_
  refine awp_region ?_
  refine sq_plain rfl rfl rfl (w_lss rfl (ev_tmp rfl) (ev_tmp rfl)) ?_
  refine sq_nil ?_
  refine awp_seq ?_
  refine awp_cond (ev_tmp rfl) ?_ ?_
  · intro h10
    have k10 := of_decide_eq_true h10; try simp only [List.length_map] at k10
    have hlt : i < l.length := by omega
    obtain ⟨x, hx⟩ := get_some hlt
    have hsx : x.size ≤ 4194304 := Nat.le_trans (sizeL_get hx) hs
    refine awp_skip ?_
    refine awp_seq ?_
    refine awp_block ?_
    refine awp_seq ?_
    refine awp_region ?_
    refine sq_plain rfl rfl rfl (w_idxm rfl Try.underlying53 Try.sizeOf153 (ev_tmp rfl) (ev_tmp rfl) hx (by first | omega | ((try simp only [List.length_map, List.length_take, List.length_cons, List.length_nil, chunks_len, szR] at *); omega) | (have hc2 := hc; simp only [Bool.and_eq_true, Bool.or_eq_true, Bool.or_eq_false_iff, Bool.and_eq_false_iff, Bool.not_eq_true', Bool.not_eq_false', decide_eq_true_eq, decide_eq_false_iff_not, beq_iff_eq, bne_iff_ne, List.length_map, List.length_take] at hc2; omega))) ?_
    refine sq_plain rfl rfl rfl (w_loadE rfl (ev_tmp rfl) Try.isAgg153 Try.sizeOf153) ?_
    refine sq_alloc rfl rfl rfl rfl Try.zeroValue153 rfl ?_
    intro b5
    refine sq_storeB0 0 rfl rfl rfl (ev_tmp rfl) (ev_tmp rfl) (as_agg _) rfl Try.sizeOf153 rfl ?_
    refine sq_nil ?_
    refine awp_seq ?_
    refine awp_seq ?_
    refine awp_region ?_
    refine sq_plain rfl rfl rfl (w_loadA 0 rfl (ev_tmp rfl) rfl Try.isAgg153 Try.sizeOf153 rfl) ?_
    refine sq_plain rfl rfl rfl (w_call rfl Try.call146 rfl (isCell_spec _ (by first | assumption | omega)) (evl_cons (ev_tmp rfl) evl_nil)) ?_
    refine sq_plain rfl rfl rfl (w_not rfl (ev_tmp rfl)) ?_
    refine sq_nil ?_
    refine awp_cond (ev_tmp rfl) ?_ ?_
    · intro h15
      refine awp_seq ?_
      refine awp_region ?_
      refine sq_plain rfl rfl rfl (w_assign rfl ev_cb) ?_
      refine sq_nil ?_
      refine awp_ret ?_
      exact retR rfl (rv_tmp' rfl (by first | exact congrArg AV.bool (by unfold goodCells; rw [hinv.2, all_stop hx (by simpa using h15)]; rfl) | exact congrArg AV.bool (by unfold goodCells; rw [hinv.2, all_end hge, List.length_map]; simp)))
    · intro h15
      refine awp_skip ?_
      refine awp_region ?_
      refine sq_plain rfl rfl rfl (w_move rfl (ev_tmp rfl)) ?_
      refine sq_plain rfl rfl rfl (w_fldBn 0 rfl Try.underlying153 rfl Try.sizeOf9 (ev_tmp rfl) rfl) ?_
      refine sq_plain rfl rfl rfl (w_loadB1 0 rfl (ev_tmp rfl) rfl Try.isAgg9 rfl) ?_
      refine sq_plain rfl rfl rfl (w_bslice rfl Try.underlying29 Try.sizeOf9 Try.zeroValue9 rfl rfl rfl rfl (bp_cons (ev_tmp rfl) (as_str _) bp_nil) rfl rfl) ?_
      refine sq_append (by' := 16) 1 rfl rfl rfl rfl Try.underlying29 Try.type9 rfl rfl rfl rfl rfl rfl (ev_tmp rfl) (ev_tmp rfl) rfl (by first | omega | ((try simp only [List.length_map, List.length_take, List.length_cons, List.length_nil, chunks_len, szR] at *); omega) | (have hc2 := hc; simp only [Bool.and_eq_true, Bool.or_eq_true, Bool.or_eq_false_iff, Bool.and_eq_false_iff, Bool.not_eq_true', Bool.not_eq_false', decide_eq_true_eq, decide_eq_false_iff_not, beq_iff_eq, bne_iff_ne, List.length_map, List.length_take] at hc2; omega)) ?_
      intro v20_1
      refine sq_plain rfl rfl rfl (w_assign rfl (ev_tmp rfl)) ?_
      refine sq_nil ?_
      refine awp_region ?_
      refine sq_plain rfl rfl rfl (w_addi rfl (ev_tmp rfl) ev_ci (by first | omega | ((try simp only [List.length_map, List.length_take, List.length_cons, List.length_nil, chunks_len, szR] at *); omega) | (have hc2 := hc; simp only [Bool.and_eq_true, Bool.or_eq_true, Bool.or_eq_false_iff, Bool.and_eq_false_iff, Bool.not_eq_true', Bool.not_eq_false', decide_eq_true_eq, decide_eq_false_iff_not, beq_iff_eq, bne_iff_ne, List.length_map, List.length_take] at hc2; omega))) ?_
      refine sq_plain rfl rfl rfl (w_move rfl (ev_tmp rfl)) ?_
      refine sq_nil ?_
      refine round_end2 i v (i + 1) (v20_1) ?_ ?_ (le_dropeq 1 (by exact congrArg (fun z => [Own.arr v20_1 9 1 z]) (take_map_succ (f := fun w : TCell => [AV.str w.Key]) hx)) ⟨rfl, rfl, rfl, rfl, rfl, trivial⟩)
      · exact ⟨by omega, by rw [hinv.2, all_step hx (by simpa using h15)]⟩
      · omega
  · intro h10
    have k10 := of_decide_eq_false h10; try simp only [List.length_map] at k10
    have hge : l.length ≤ i := by omega
    rw [List.take_of_length_le hge, show (l.map fun w => [AV.str w.Key]) = (cKeys l).map (fun k => [AV.str k]) from by unfold cKeys; rw [List.map_map]; rfl]
    refine awp_exit ?_
    refine awp_seq ?_
    refine awp_region ?_
    refine sq_plain rfl rfl rfl (w_move rfl (ev_tmp rfl)) ?_
    refine sq_plain rfl rfl rfl (w_llen rfl Try.underlying53 (ev_tmp rfl)) ?_
    refine sq_plain rfl rfl rfl (w_leq rfl (ev_tmp rfl) ev_ci) ?_
    refine sq_plain rfl rfl rfl (w_move rfl (ev_tmp rfl)) ?_
    refine sq_grd rfl rfl (guard_t rfl rfl rfl) (fun hc => w_move rfl (ev_tmp rfl)) ?_
    refine sq_grd rfl rfl (guard_t rfl rfl rfl) (fun hc => w_callB rfl Try.call147 rfl (areRising_spec (cKeys l) hks) (flat_bool _) (evlb_cons (evb_arr 0 (ev_whn rfl hc) rfl) evlb_nil)) ?_
    refine sq_plain rfl rfl rfl (w_and rfl (ev_tmp rfl) (evif_w rfl)) ?_
    refine sq_plain rfl rfl rfl (w_assign rfl (ev_tmp rfl)) ?_
    refine sq_nil ?_
    refine awp_ret ?_
    exact retR rfl (rv_tmp' rfl (by first | exact congrArg AV.bool (by unfold goodCells; rw [hinv.2, all_stop hx (by simpa using h15)]; rfl) | exact congrArg AV.bool (by unfold goodCells; rw [hinv.2, all_end hge, List.length_map]; simp)))
theorem l3Good_spec (l : List TCell) (hs : sizeL TCell.size l ≤ 4194304) : FSpec Try.prog 143 [AV.list 2 (l.map TCell.cs)] (AV.bool (l3Good l)) := by
  refine spec_of_awp Try.func143 rfl Try.ntmps143 rfl ?_
  refine awp_len (t := 0) rfl fun hl => ?_
  try simp only [List.length_map] at hl
  refine awp_seq ?_
  refine awp_region ?_
  refine sq_plain rfl rfl rfl (w_assign rfl ev_cb) ?_
  refine sq_nil ?_
  refine awp_seq ?_
  refine awp_seq ?_
  refine awp_region ?_
  refine sq_plain rfl rfl rfl (w_move rfl (ev_tmp rfl)) ?_
  refine sq_plain rfl rfl rfl (w_llen rfl Try.underlying53 (ev_tmp rfl)) ?_
  refine sq_plain rfl rfl rfl (w_move rfl ev_ci) ?_
  refine sq_nil ?_
  refine awp_block ?_
  refine awp_loop_i [(0, _), (5, _), (6, _)] _ (fun (i : Nat) => i ≤ l.length ∧ (l.all l3Cell && adj cLess l) = ((l.drop i).all l3Cell && adj cLess (l.drop (i - 1)))) (fun (i : Nat) => []) (fun (i : Nat) => [(7, AV.int i)]) (fun (i : Nat) => l.length - i) (0) ?_ (le_env ⟨rfl, rfl, rfl, rfl, trivial⟩) ?_
  · exact ⟨Nat.zero_le _, rfl⟩
  intro i hinv
  refine awp_seq ?_
  refine awp_region ?_
  refine sq_plain rfl rfl rfl (w_lss rfl (ev_tmp rfl) (ev_tmp rfl)) ?_
  refine sq_nil ?_
  refine awp_seq ?_
  refine awp_cond (ev_tmp rfl) ?_ ?_
  · intro h8
    have k8 := of_decide_eq_true h8; try simp only [List.length_map] at k8
    have hlt : i < l.length := by omega
    obtain ⟨x, hx⟩ := get_some hlt
    obtain ⟨y, hy⟩ := get_some (show i - 1 < l.length by omega)
    have hsx : x.size ≤ 4194304 := Nat.le_trans (sizeL_get hx) hs
    refine awp_skip ?_
    refine awp_seq ?_
    refine awp_block ?_
    refine awp_seq ?_
    refine awp_region ?_
    refine sq_plain rfl rfl rfl (w_move rfl (ev_tmp rfl)) ?_
    refine sq_plain rfl rfl rfl (w_idxm rfl Try.underlying53 Try.sizeOf153 (ev_tmp rfl) (ev_tmp rfl) hx (by first | omega | ((try simp only [List.length_map, List.length_take, List.length_cons, List.length_nil, chunks_len, szR] at *); omega) | (have hc2 := hc; simp only [Bool.and_eq_true, Bool.or_eq_true, Bool.or_eq_false_iff, Bool.and_eq_false_iff, Bool.not_eq_true', Bool.not_eq_false', decide_eq_true_eq, decide_eq_false_iff_not, beq_iff_eq, bne_iff_ne, List.length_map, List.length_take] at hc2; omega))) ?_
    refine sq_plain rfl rfl rfl (w_loadE rfl (ev_tmp rfl) Try.isAgg153 Try.sizeOf153) ?_
    refine sq_alloc rfl rfl rfl rfl Try.zeroValue153 rfl ?_
    intro b4
    refine sq_plain rfl rfl rfl (w_assign rfl (ev_tmp rfl)) ?_
    refine sq_storeB0 0 rfl rfl rfl (ev_tmp rfl) (ev_tmp rfl) (as_agg _) rfl Try.sizeOf153 rfl ?_
    refine sq_nil ?_
    refine awp_seq ?_
    refine awp_region_any (by kernel_rfl) (by kernel_rfl) rfl ?_
    refine ch_plain rfl rfl (w_loadA 0 rfl (ev_tmp rfl) rfl Try.isAgg153 Try.sizeOf153 rfl) ?_
    refine ch_plain rfl rfl (w_call rfl Try.call232 rfl (l3Cell_spec _ (by first | assumption | omega)) (evl_cons (ev_tmp rfl) evl_nil)) ?_
    refine ch_plain rfl rfl (w_not rfl (ev_tmp rfl)) ?_
    refine ch_plain rfl rfl (w_move rfl (ev_tmp rfl)) ?_
    refine ch_grd rfl (guard_f rfl rfl rfl) (fun hc => w_move rfl (ev_tmp rfl)) ?_
    refine ch_grd rfl (guard_f rfl rfl rfl) (fun hc => w_gtr rfl (ev_whn rfl hc) ev_ci) ?_
    refine ch_grd rfl (guard_f rfl rfl rfl) (fun hc => w_move rfl (ev_whn rfl hc)) ?_
    refine ch_grd rfl (guard_wt rfl rfl rfl) (fun hc => w_move rfl (ev_tmp rfl)) ?_
    refine ch_grd rfl (guard_wt rfl rfl rfl) (fun hc => w_move rfl (ev_tmp rfl)) ?_
    refine ch_grd rfl (guard_wt rfl rfl rfl) (fun hc => w_subi rfl (ev_whn rfl hc) ev_ci (by first | omega | ((try simp only [List.length_map, List.length_take, List.length_cons, List.length_nil, chunks_len, szR] at *); omega) | (have hc2 := hc; simp only [Bool.and_eq_true, Bool.or_eq_true, Bool.or_eq_false_iff, Bool.and_eq_false_iff, Bool.not_eq_true', Bool.not_eq_false', decide_eq_true_eq, decide_eq_false_iff_not, beq_iff_eq, bne_iff_ne, List.length_map, List.length_take] at hc2; omega))) ?_
    refine ch_grd rfl (guard_wt rfl rfl rfl) (fun hc => w_idxm rfl Try.underlying53 Try.sizeOf153 (ev_whn rfl hc) (ev_whn rfl hc) hy (by first | omega | ((try simp only [List.length_map, List.length_take, List.length_cons, List.length_nil, chunks_len, szR] at *); omega) | (have hc2 := hc; simp only [Bool.and_eq_true, Bool.or_eq_true, Bool.or_eq_false_iff, Bool.and_eq_false_iff, Bool.not_eq_true', Bool.not_eq_false', decide_eq_true_eq, decide_eq_false_iff_not, beq_iff_eq, bne_iff_ne, List.length_map, List.length_take] at hc2; omega))) ?_
    refine ch_grd rfl (guard_wt rfl rfl rfl) (fun hc => w_fldE rfl Try.underlying153 rfl Try.sizeOf9 (ev_whn rfl hc) rfl) ?_
    refine ch_grd rfl (guard_wt rfl rfl rfl) (fun hc => w_loadE1 rfl (ev_whn rfl hc) Try.isAgg9 rfl) ?_
    refine ch_grd rfl (guard_wt rfl rfl rfl) (fun hc => w_fldBn 0 rfl Try.underlying153 rfl Try.sizeOf9 (ev_tmp rfl) rfl) ?_
    refine ch_grd rfl (guard_wt rfl rfl rfl) (fun hc => w_loadB1 0 rfl (ev_whn rfl hc) rfl Try.isAgg9 rfl) ?_
    refine ch_grd rfl (guard_wt rfl rfl rfl) (fun hc => w_sgeq rfl (ev_whn rfl hc) (ev_whn rfl hc)) ?_
    refine ch_grd rfl (guard_f rfl rfl rfl) (fun hc => w_and rfl (ev_whn rfl hc) (evif_w2 rfl hc)) ?_
    refine ch_plain rfl rfl (w_or rfl (ev_tmp rfl) (evif_w rfl)) ?_
    refine ch_nil ?_
    refine awp_cond (ev_tmp rfl) ?_ ?_
    · intro h29
      have hfin : l3Good l = false := by unfold l3Good; rw [hinv.2]; cases hg : l3Cell x with | false => (rw [all_stop hx hg]; simp) | true => (have hb : 0 < i ∧ cLess y x = false := (by unfold cLess; simp_all; try grind); rw [adj_stop hx hy hb.1 hb.2]; simp)
      refine awp_seq ?_
      refine awp_region ?_
      refine sq_plain rfl rfl rfl (w_assign rfl ev_cb) ?_
      refine sq_nil ?_
      refine awp_ret ?_
      exact retR rfl (rv_tmp' rfl (by first | exact congrArg AV.bool hfin.symm | exact congrArg AV.bool (by unfold l3Good; rw [hinv.2, all_end hge, adj_end hge, List.length_map]; simp)))
    · intro h29
      have hg : l3Cell x = true ∧ (0 < i → cLess y x = true) := by unfold cLess; simp_all
      refine awp_skip ?_
      refine awp_region ?_
      refine sq_plain rfl rfl rfl (w_addi rfl (ev_tmp rfl) ev_ci (by first | omega | ((try simp only [List.length_map, List.length_take, List.length_cons, List.length_nil, chunks_len, szR] at *); omega) | (have hc2 := hc; simp only [Bool.and_eq_true, Bool.or_eq_true, Bool.or_eq_false_iff, Bool.and_eq_false_iff, Bool.not_eq_true', Bool.not_eq_false', decide_eq_true_eq, decide_eq_false_iff_not, beq_iff_eq, bne_iff_ne, List.length_map, List.length_take] at hc2; omega))) ?_
      refine sq_plain rfl rfl rfl (w_move rfl (ev_tmp rfl)) ?_
      refine sq_nil ?_
      refine round_end i (i + 1) ?_ ?_ (le_drop 1 ⟨rfl, rfl, rfl, rfl, trivial⟩)
      · exact ⟨by omega, by rw [hinv.2, all_step hx hg.1, adj_step hx hy hg.2]⟩
      · omega
  · intro h8
    have k8 := of_decide_eq_false h8; try simp only [List.length_map] at k8
    have hge : l.length ≤ i := by omega
    refine awp_exit ?_
    refine awp_seq ?_
    refine awp_region ?_
    refine sq_plain rfl rfl rfl (w_move rfl (ev_tmp rfl)) ?_
    refine sq_plain rfl rfl rfl (w_llen rfl Try.underlying53 (ev_tmp rfl)) ?_
    refine sq_plain rfl rfl rfl (w_leq rfl (ev_tmp rfl) ev_ci) ?_
    refine sq_plain rfl rfl rfl (w_assign rfl (ev_tmp rfl)) ?_
    refine sq_nil ?_
    refine awp_ret ?_
    exact retR rfl (rv_tmp' rfl (by first | exact congrArg AV.bool hfin.symm | exact congrArg AV.bool (by unfold l3Good; rw [hinv.2, all_end hge, adj_end hge, List.length_map]; simp)))
theorem goodCellsS_spec (l : List TCell) (hs : sizeL TCell.size l ≤ 4194304) : FSpec Try.prog 61 [AV.list 2 (l.map TCell.cs)] (AV.bool (l3Good l)) := by
  refine spec_of_awp Try.func61 rfl Try.ntmps61 rfl ?_
  refine awp_seq ?_
  refine awp_region ?_
  refine sq_plain rfl rfl rfl (w_assign rfl ev_cb) ?_
  refine sq_nil ?_
  refine awp_seq ?_
  refine awp_region ?_
  refine sq_plain rfl rfl rfl (w_move rfl (ev_tmp rfl)) ?_
  refine sq_plain rfl rfl rfl (w_call rfl Try.call143 rfl (l3Good_spec _ (by first | assumption | omega)) (evl_cons (ev_tmp rfl) evl_nil)) ?_
  refine sq_plain rfl rfl rfl (w_assign rfl (ev_tmp rfl)) ?_
  refine sq_nil ?_
  refine awp_ret ?_
  exact retR rfl (rv_tmp' rfl (by first | rfl | (refine congrArg AV.bool ?_; simp_all; done)))
theorem findCell1_spec (c : TCell) (k : Str) : FSpec Try.prog 276 [AV.agg c.cs, AV.str k] (AV.int (cCmp k c)) := by
  refine spec_of_awp Try.func276 rfl Try.ntmps276 rfl ?_
  refine awp_seq ?_
  refine awp_region ?_
  refine sq_box rfl rfl rfl rfl (ev_tmp rfl) ?_
  intro b2
  refine sq_plain rfl rfl rfl (w_assign rfl ev_ci) ?_
  refine sq_nil ?_
  refine awp_seq ?_
  refine awp_region ?_
  refine sq_plain rfl rfl rfl (w_fldBn 0 rfl Try.underlying153 rfl Try.sizeOf9 (ev_tmp rfl) rfl) ?_
  refine sq_plain rfl rfl rfl (w_loadB1 0 rfl (ev_tmp rfl) rfl Try.isAgg9 rfl) ?_
  refine sq_plain rfl rfl rfl (w_move rfl (ev_tmp rfl)) ?_
  refine sq_plain rfl rfl rfl (w_call rfl Try.call268 rfl (cmpStr_spec _ _) (evl_cons (ev_tmp rfl) (evl_cons (ev_tmp rfl) evl_nil))) ?_
  refine sq_plain rfl rfl rfl (w_assign rfl (ev_tmp rfl)) ?_
  refine sq_nil ?_
  refine awp_ret ?_
  exact retR rfl (rv_tmp' rfl (by first | rfl | (refine congrArg AV.bool ?_; simp_all; done)))
theorem findCell_spec (l : List TCell) (k : Str) (hs : l.length ≤ 4611686018427387903) : FSpec Try.prog 234 [AV.list 2 (l.map TCell.cs), AV.str k] (AV.tup [AV.int (cPos l k), AV.bool (cHas l k)]) := by
  refine spec_of_awp Try.func234 rfl Try.ntmps234 rfl ?_
  refine awp_seq ?_
  refine awp_region ?_
  refine sq_plain rfl rfl rfl (w_assign rfl ev_ci) ?_
  refine sq_plain rfl rfl rfl (w_assign rfl ev_cb) ?_
  refine sq_nil ?_
  refine awp_seq ?_
  refine awp_region ?_
  refine sq_plain rfl rfl rfl (w_move rfl (ev_tmp rfl)) ?_
  refine sq_plain rfl rfl rfl (w_move rfl (ev_tmp rfl)) ?_
  refine sq_plain rfl rfl rfl (w_call rfl Try.call275 rfl (binSearchCellStr_spec _ _ _ (by first | (intros; trivial) | assumption | (intros; first | trivial | (simp_all; done))) _ (by omega)) (evl_cons (ev_tmp rfl) (evl_cons (ev_tmp rfl) (evl_cons (ev_fun2 Try.call276 (fun c k (_ : True) => findCell1_spec c k)) evl_nil)))) ?_
  refine sq_plain rfl rfl rfl (w_extract rfl (ev_tmp rfl) rfl) ?_
  refine sq_plain rfl rfl rfl (w_extract rfl (ev_tmp rfl) rfl) ?_
  refine sq_plain rfl rfl rfl (w_assign rfl (ev_tmp rfl)) ?_
  refine sq_plain rfl rfl rfl (w_assign rfl (ev_tmp rfl)) ?_
  refine sq_nil ?_
  refine awp_ret ?_
  exact retN rfl (by decide) (rv_cons (rv_tmp' rfl (by first | rfl | (refine congrArg AV.bool ?_; simp_all; done))) (rv_cons (rv_tmp' rfl (by first | rfl | (refine congrArg AV.bool ?_; simp_all; done))) rv_nil))
theorem lastV_get {c : TCell} (h : 1 ≤ c.Vers.length) : ∃ v, c.Vers[c.Vers.length - 1]? = some v ∧ lastV c = v.Time := by
  obtain ⟨v, hv⟩ := get_some (show c.Vers.length - 1 < c.Vers.length by omega)
  refine ⟨v, hv, ?_⟩
  unfold lastV; rw [List.getLast?_eq_getElem?, hv]
theorem lastTime_spec (l : List TCell) (k : Str) (ho : CellsOk l) (hs : sizeL TCell.size l ≤ 4194304) : FSpec Try.prog 164 [AV.list 2 (l.map TCell.cs), AV.str k] (AV.int (lastTime l k)) := by
  have hl : l.length ≤ 4194304 := Nat.le_trans sizeL_len hs
  refine spec_of_awp Try.func164 rfl Try.ntmps164 rfl ?_
  refine awp_seq ?_
  refine awp_region ?_
  refine sq_plain rfl rfl rfl (w_assign rfl ev_ci) ?_
  refine sq_nil ?_
  refine awp_seq ?_
  refine awp_region ?_
  refine sq_plain rfl rfl rfl (w_move rfl (ev_tmp rfl)) ?_
  refine sq_plain rfl rfl rfl (w_move rfl (ev_tmp rfl)) ?_
  refine sq_plain rfl rfl rfl (w_call rfl Try.call234 rfl (findCell_spec _ _ (by first | assumption | omega)) (evl_cons (ev_tmp rfl) (evl_cons (ev_tmp rfl) evl_nil))) ?_
  refine sq_plain rfl rfl rfl (w_move rfl (ev_tmp rfl)) ?_
  refine sq_plain rfl rfl rfl (w_extract rfl (ev_tmp rfl) rfl) ?_
  refine sq_plain rfl rfl rfl (w_extract rfl (ev_tmp rfl) rfl) ?_
  refine sq_plain rfl rfl rfl (w_assign rfl (ev_tmp rfl)) ?_
  refine sq_plain rfl rfl rfl (w_assign rfl (ev_tmp rfl)) ?_
  refine sq_nil ?_
  refine awp_seq ?_
  refine awp_seq ?_
  refine awp_region ?_
  refine sq_plain rfl rfl rfl (w_move rfl (ev_tmp rfl)) ?_
  refine sq_plain rfl rfl rfl (w_not rfl (ev_tmp rfl)) ?_
  refine sq_nil ?_
  refine awp_cond (ev_tmp rfl) ?_ ?_
  · intro h14
    have hn : cHas l k = false := by simpa using h14
    have he : lastTime l k = 0 := by unfold lastTime; rw [findC_eq ho.1, hn]; rfl
    rw [he]
    refine awp_seq ?_
    refine awp_region ?_
    refine sq_plain rfl rfl rfl (w_assign rfl ev_ci) ?_
    refine sq_nil ?_
    refine awp_ret ?_
    exact retR rfl (rv_tmp' rfl (by first | rfl | (refine congrArg AV.bool ?_; simp_all; done)))
  · intro h14
    have hn : cHas l k = true := by simpa using h14
    obtain ⟨c, hc, hck⟩ := cHas_iff.1 hn
    obtain ⟨v, hv, hlv⟩ := lastV_get (ho.2 c (List.mem_of_getElem? hc))
    have hcl := cell_len (Nat.le_trans (sizeL_get hc) hs)
    have hc1 := ho.2 c (List.mem_of_getElem? hc)
    have he : lastTime l k = v.Time := by unfold lastTime; rw [findC_eq ho.1, hn, if_pos rfl, hc]; exact hlv
    rw [he]
    refine awp_skip ?_
    refine awp_seq ?_
    refine awp_region_any (by kernel_rfl) (by kernel_rfl) rfl ?_
    refine ch_plain rfl rfl (w_move rfl (ev_tmp rfl)) ?_
    refine ch_plain rfl rfl (w_move rfl (ev_tmp rfl)) ?_
    refine ch_plain rfl rfl (w_idxm rfl Try.underlying53 Try.sizeOf153 (ev_tmp rfl) (ev_tmp rfl) hc (by first | omega | ((try simp only [List.length_map, List.length_take, List.length_cons, List.length_nil, chunks_len, szR] at *); omega) | (have hc2 := hc; simp only [Bool.and_eq_true, Bool.or_eq_true, Bool.or_eq_false_iff, Bool.and_eq_false_iff, Bool.not_eq_true', Bool.not_eq_false', decide_eq_true_eq, decide_eq_false_iff_not, beq_iff_eq, bne_iff_ne, List.length_map, List.length_take] at hc2; omega))) ?_
    refine ch_plain rfl rfl (w_fldE rfl Try.underlying153 rfl Try.sizeOf151 (ev_tmp rfl) rfl) ?_
    refine ch_plain rfl rfl (w_loadE1 rfl (ev_tmp rfl) Try.isAgg151 rfl) ?_
    refine ch_plain rfl rfl (w_move rfl (ev_tmp rfl)) ?_
    refine ch_plain rfl rfl (w_move rfl (ev_tmp rfl)) ?_
    refine ch_plain rfl rfl (w_idxm rfl Try.underlying53 Try.sizeOf153 (ev_tmp rfl) (ev_tmp rfl) hc (by first | omega | ((try simp only [List.length_map, List.length_take, List.length_cons, List.length_nil, chunks_len, szR] at *); omega) | (have hc2 := hc; simp only [Bool.and_eq_true, Bool.or_eq_true, Bool.or_eq_false_iff, Bool.and_eq_false_iff, Bool.not_eq_true', Bool.not_eq_false', decide_eq_true_eq, decide_eq_false_iff_not, beq_iff_eq, bne_iff_ne, List.length_map, List.length_take] at hc2; omega))) ?_
    refine ch_plain rfl rfl (w_fldE rfl Try.underlying153 rfl Try.sizeOf151 (ev_tmp rfl) rfl) ?_
    refine ch_plain rfl rfl (w_loadE1 rfl (ev_tmp rfl) Try.isAgg151 rfl) ?_
    refine ch_plain rfl rfl (w_llen rfl Try.underlying151 (ev_tmp rfl)) ?_
    refine ch_plain rfl rfl (w_subi rfl (ev_tmp rfl) ev_ci (by first | omega | ((try simp only [List.length_map, List.length_take, List.length_cons, List.length_nil, chunks_len, szR] at *); omega) | (have hc2 := hc; simp only [Bool.and_eq_true, Bool.or_eq_true, Bool.or_eq_false_iff, Bool.and_eq_false_iff, Bool.not_eq_true', Bool.not_eq_false', decide_eq_true_eq, decide_eq_false_iff_not, beq_iff_eq, bne_iff_ne, List.length_map, List.length_take] at hc2; omega))) ?_
    refine ch_plain rfl rfl (w_idxm rfl Try.underlying151 Try.sizeOf155 (ev_tmp rfl) (ev_tmp rfl) hv (by first | omega | ((try simp only [List.length_map, List.length_take, List.length_cons, List.length_nil, chunks_len, szR] at *); omega) | (have hc2 := hc; simp only [Bool.and_eq_true, Bool.or_eq_true, Bool.or_eq_false_iff, Bool.and_eq_false_iff, Bool.not_eq_true', Bool.not_eq_false', decide_eq_true_eq, decide_eq_false_iff_not, beq_iff_eq, bne_iff_ne, List.length_map, List.length_take] at hc2; omega))) ?_
    refine ch_plain rfl rfl (w_fldE rfl Try.underlying155 rfl Try.sizeOf3 (ev_tmp rfl) rfl) ?_
    refine ch_plain rfl rfl (w_loadE1 rfl (ev_tmp rfl) Try.isAgg3 rfl) ?_
    refine ch_plain rfl rfl (w_assign rfl (ev_tmp rfl)) ?_
    refine ch_nil ?_
    refine awp_ret ?_
    exact retR rfl (rv_tmp' rfl (by first | rfl | (refine congrArg AV.bool ?_; simp_all; done)))
theorem l3At_spec (l : List TCell) (k : Str) : FSpec Try.prog 244 [AV.list 2 (l.map TCell.cs), AV.str k] (AV.int (atC l k)) := by
  refine spec_of_awp Try.func244 rfl Try.ntmps244 rfl ?_
  refine awp_len (t := 0) rfl fun hl => ?_
  try simp only [List.length_map] at hl
  refine awp_seq ?_
  refine awp_region ?_
  refine sq_plain rfl rfl rfl (w_assign rfl ev_ci) ?_
  refine sq_nil ?_
  refine awp_seq ?_
  refine awp_seq ?_
  refine awp_region ?_
  refine sq_plain rfl rfl rfl (w_move rfl (ev_tmp rfl)) ?_
  refine sq_plain rfl rfl rfl (w_llen rfl Try.underlying53 (ev_tmp rfl)) ?_
  refine sq_plain rfl rfl rfl (w_move rfl ev_ci) ?_
  refine sq_nil ?_
  refine awp_block ?_
  refine awp_loop_i [(1, _), (7, _), (8, _)] _ (fun (i : Nat) => i ≤ l.length ∧ ∀ j x, j < i → l[j]? = some x → x.Key ≠ k) (fun (i : Nat) => []) (fun (i : Nat) => [(9, AV.int i)]) (fun (i : Nat) => l.length - i) (0) ?_ (le_env ⟨rfl, rfl, rfl, rfl, trivial⟩) ?_
  · exact ⟨Nat.zero_le _, fun j x h => by omega⟩
  intro i hinv
  refine awp_seq ?_
  refine awp_region ?_
  refine sq_plain rfl rfl rfl (w_lss rfl (ev_tmp rfl) (ev_tmp rfl)) ?_
  refine sq_nil ?_
  refine awp_seq ?_
  refine awp_cond (ev_tmp rfl) ?_ ?_
  · intro h10
    have k10 := of_decide_eq_true h10; try simp only [List.length_map] at k10
    have hlt : i < l.length := by omega
    obtain ⟨x, hx⟩ := get_some hlt
    refine awp_skip ?_
    refine awp_seq ?_
    refine awp_block ?_
    refine awp_seq ?_
    refine awp_region ?_
    refine sq_plain rfl rfl rfl (w_move rfl (ev_tmp rfl)) ?_
    refine sq_plain rfl rfl rfl (w_idxm rfl Try.underlying53 Try.sizeOf153 (ev_tmp rfl) (ev_tmp rfl) hx (by first | omega | ((try simp only [List.length_map, List.length_take, List.length_cons, List.length_nil, chunks_len, szR] at *); omega) | (have hc2 := hc; simp only [Bool.and_eq_true, Bool.or_eq_true, Bool.or_eq_false_iff, Bool.and_eq_false_iff, Bool.not_eq_true', Bool.not_eq_false', decide_eq_true_eq, decide_eq_false_iff_not, beq_iff_eq, bne_iff_ne, List.length_map, List.length_take] at hc2; omega))) ?_
    refine sq_plain rfl rfl rfl (w_loadE rfl (ev_tmp rfl) Try.isAgg153 Try.sizeOf153) ?_
    refine sq_alloc rfl rfl rfl rfl Try.zeroValue153 rfl ?_
    intro b6
    refine sq_plain rfl rfl rfl (w_assign rfl (ev_tmp rfl)) ?_
    refine sq_storeB0 0 rfl rfl rfl (ev_tmp rfl) (ev_tmp rfl) (as_agg _) rfl Try.sizeOf153 rfl ?_
    refine sq_nil ?_
    refine awp_seq ?_
    refine awp_region ?_
    refine sq_plain rfl rfl rfl (w_fldBn 0 rfl Try.underlying153 rfl Try.sizeOf9 (ev_tmp rfl) rfl) ?_
    refine sq_plain rfl rfl rfl (w_loadB1 0 rfl (ev_tmp rfl) rfl Try.isAgg9 rfl) ?_
    refine sq_plain rfl rfl rfl (w_move rfl (ev_tmp rfl)) ?_
    refine sq_plain rfl rfl rfl (w_seql rfl (ev_tmp rfl) (ev_tmp rfl)) ?_
    refine sq_nil ?_
    refine awp_cond (ev_tmp rfl) ?_ ?_
    · intro h17
      refine awp_seq ?_
      refine awp_region ?_
      refine sq_plain rfl rfl rfl (w_move rfl (ev_tmp rfl)) ?_
      refine sq_plain rfl rfl rfl (w_assign rfl (ev_tmp rfl)) ?_
      refine sq_nil ?_
      refine awp_ret ?_
      exact retR rfl (rv_tmp' rfl (by first | exact congrArg AV.int (atC_some hx (by simpa using h17) hinv.2).symm | exact congrArg AV.int (atC_none fun j x hx => hinv.2 j x (Nat.lt_of_lt_of_le (List.getElem?_eq_some_iff.1 hx).1 hge) hx).symm))
    · intro h17
      refine awp_skip ?_
      refine awp_region ?_
      refine sq_plain rfl rfl rfl (w_addi rfl (ev_tmp rfl) ev_ci (by first | omega | ((try simp only [List.length_map, List.length_take, List.length_cons, List.length_nil, chunks_len, szR] at *); omega) | (have hc2 := hc; simp only [Bool.and_eq_true, Bool.or_eq_true, Bool.or_eq_false_iff, Bool.and_eq_false_iff, Bool.not_eq_true', Bool.not_eq_false', decide_eq_true_eq, decide_eq_false_iff_not, beq_iff_eq, bne_iff_ne, List.length_map, List.length_take] at hc2; omega))) ?_
      refine sq_plain rfl rfl rfl (w_move rfl (ev_tmp rfl)) ?_
      refine sq_nil ?_
      refine round_end i (i + 1) ?_ ?_ (le_drop 1 ⟨rfl, rfl, rfl, rfl, trivial⟩)
      · exact ⟨by omega, fun j y hj hy => if hji : j < i then hinv.2 j y hji hy else (by have e : j = i := (by omega); subst e; rw [hx] at hy; injection hy with hy; subst hy; simpa using h17)⟩
      · omega
  · intro h10
    have k10 := of_decide_eq_false h10; try simp only [List.length_map] at k10
    have hge : l.length ≤ i := by omega
    refine awp_exit ?_
    refine awp_seq ?_
    refine awp_region ?_
    refine sq_plain rfl rfl rfl (w_assign rfl ev_ci) ?_
    refine sq_nil ?_
    refine awp_ret ?_
    exact retR rfl (rv_tmp' rfl (by first | exact congrArg AV.int (atC_some hx (by simpa using h17) hinv.2).symm | exact congrArg AV.int (atC_none fun j x hx => hinv.2 j x (Nat.lt_of_lt_of_le (List.getElem?_eq_some_iff.1 hx).1 hge) hx).symm))
theorem l3Last_spec (l : List TCell) (k : Str) (ho : CellsOk l) (hs : sizeL TCell.size l ≤ 4194304) : FSpec Try.prog 168 [AV.list 2 (l.map TCell.cs), AV.str k] (AV.int (lastTime l k)) := by
  have hl : l.length ≤ 4194304 := Nat.le_trans sizeL_len hs
  refine spec_of_awp Try.func168 rfl Try.ntmps168 rfl ?_
  refine awp_seq ?_
  refine awp_region ?_
  refine sq_plain rfl rfl rfl (w_assign rfl ev_ci) ?_
  refine sq_nil ?_
  refine awp_seq ?_
  refine awp_region ?_
  refine sq_plain rfl rfl rfl (w_move rfl (ev_tmp rfl)) ?_
  refine sq_plain rfl rfl rfl (w_move rfl (ev_tmp rfl)) ?_
  refine sq_plain rfl rfl rfl (w_call rfl Try.call244 rfl (l3At_spec _ _) (evl_cons (ev_tmp rfl) (evl_cons (ev_tmp rfl) evl_nil))) ?_
  refine sq_plain rfl rfl rfl (w_assign rfl (ev_tmp rfl)) ?_
  refine sq_nil ?_
  refine awp_seq ?_
  refine awp_seq ?_
  refine awp_region ?_
  refine sq_plain rfl rfl rfl (w_move rfl (ev_tmp rfl)) ?_
  refine sq_plain rfl rfl rfl (w_lss rfl (ev_tmp rfl) ev_ci) ?_
  refine sq_nil ?_
  refine awp_cond (ev_tmp rfl) ?_ ?_
  · intro h10
    have k10 := of_decide_eq_true h10; try simp only [List.length_map] at k10
    have hn : findC l k = none := atC_neg k10
    have he : lastTime l k = 0 := by unfold lastTime; rw [hn]
    rw [he]
    refine awp_seq ?_
    refine awp_region ?_
    refine sq_plain rfl rfl rfl (w_assign rfl ev_ci) ?_
    refine sq_nil ?_
    refine awp_ret ?_
    exact retR rfl (rv_tmp' rfl (by first | rfl | (refine congrArg AV.bool ?_; simp_all; done)))
  · intro h10
    have k10 := of_decide_eq_false h10; try simp only [List.length_map] at k10
    obtain ⟨p, c, hp, hc, hf⟩ := atC_pos k10
    rw [hp]
    obtain ⟨v, hv, hlv⟩ := lastV_get (ho.2 c (List.mem_of_getElem? hc))
    have hcl := cell_len (Nat.le_trans (sizeL_get hc) hs)
    have hc1 := ho.2 c (List.mem_of_getElem? hc)
    have he : lastTime l k = v.Time := by unfold lastTime; rw [hf]; exact hlv
    rw [he]
    refine awp_skip ?_
    refine awp_seq ?_
    refine awp_region_any (by kernel_rfl) (by kernel_rfl) rfl ?_
    refine ch_plain rfl rfl (w_move rfl (ev_tmp rfl)) ?_
    refine ch_plain rfl rfl (w_move rfl (ev_tmp rfl)) ?_
    refine ch_plain rfl rfl (w_idxm rfl Try.underlying53 Try.sizeOf153 (ev_tmp rfl) (ev_tmp rfl) hc (by first | omega | ((try simp only [List.length_map, List.length_take, List.length_cons, List.length_nil, chunks_len, szR] at *); omega) | (have hc2 := hc; simp only [Bool.and_eq_true, Bool.or_eq_true, Bool.or_eq_false_iff, Bool.and_eq_false_iff, Bool.not_eq_true', Bool.not_eq_false', decide_eq_true_eq, decide_eq_false_iff_not, beq_iff_eq, bne_iff_ne, List.length_map, List.length_take] at hc2; omega))) ?_
    refine ch_plain rfl rfl (w_fldE rfl Try.underlying153 rfl Try.sizeOf151 (ev_tmp rfl) rfl) ?_
    refine ch_plain rfl rfl (w_loadE1 rfl (ev_tmp rfl) Try.isAgg151 rfl) ?_
    refine ch_plain rfl rfl (w_move rfl (ev_tmp rfl)) ?_
    refine ch_plain rfl rfl (w_move rfl (ev_tmp rfl)) ?_
    refine ch_plain rfl rfl (w_idxm rfl Try.underlying53 Try.sizeOf153 (ev_tmp rfl) (ev_tmp rfl) hc (by first | omega | ((try simp only [List.length_map, List.length_take, List.length_cons, List.length_nil, chunks_len, szR] at *); omega) | (have hc2 := hc; simp only [Bool.and_eq_true, Bool.or_eq_true, Bool.or_eq_false_iff, Bool.and_eq_false_iff, Bool.not_eq_true', Bool.not_eq_false', decide_eq_true_eq, decide_eq_false_iff_not, beq_iff_eq, bne_iff_ne, List.length_map, List.length_take] at hc2; omega))) ?_
    refine ch_plain rfl rfl (w_fldE rfl Try.underlying153 rfl Try.sizeOf151 (ev_tmp rfl) rfl) ?_
    refine ch_plain rfl rfl (w_loadE1 rfl (ev_tmp rfl) Try.isAgg151 rfl) ?_
    refine ch_plain rfl rfl (w_llen rfl Try.underlying151 (ev_tmp rfl)) ?_
    refine ch_plain rfl rfl (w_subi rfl (ev_tmp rfl) ev_ci (by first | omega | ((try simp only [List.length_map, List.length_take, List.length_cons, List.length_nil, chunks_len, szR] at *); omega) | (have hc2 := hc; simp only [Bool.and_eq_true, Bool.or_eq_true, Bool.or_eq_false_iff, Bool.and_eq_false_iff, Bool.not_eq_true', Bool.not_eq_false', decide_eq_true_eq, decide_eq_false_iff_not, beq_iff_eq, bne_iff_ne, List.length_map, List.length_take] at hc2; omega))) ?_
    refine ch_plain rfl rfl (w_idxm rfl Try.underlying151 Try.sizeOf155 (ev_tmp rfl) (ev_tmp rfl) hv (by first | omega | ((try simp only [List.length_map, List.length_take, List.length_cons, List.length_nil, chunks_len, szR] at *); omega) | (have hc2 := hc; simp only [Bool.and_eq_true, Bool.or_eq_true, Bool.or_eq_false_iff, Bool.and_eq_false_iff, Bool.not_eq_true', Bool.not_eq_false', decide_eq_true_eq, decide_eq_false_iff_not, beq_iff_eq, bne_iff_ne, List.length_map, List.length_take] at hc2; omega))) ?_
    refine ch_plain rfl rfl (w_fldE rfl Try.underlying155 rfl Try.sizeOf3 (ev_tmp rfl) rfl) ?_
    refine ch_plain rfl rfl (w_loadE1 rfl (ev_tmp rfl) Try.isAgg3 rfl) ?_
    refine ch_plain rfl rfl (w_assign rfl (ev_tmp rfl)) ?_
    refine ch_nil ?_
    refine awp_ret ?_
    exact retR rfl (rv_tmp' rfl (by first | rfl | (refine congrArg AV.bool ?_; simp_all; done)))
theorem equalFuncCell_spec (a b : List TCell) (pre : TCell → TCell → Prop) (hp : ∀ x y, pre x y) : FSpec Try.prog 171 [AV.list 2 (a.map TCell.cs), AV.list 2 (b.map TCell.cs), AV.fun2 Try.prog pre (fun a => AV.agg a.cs) (fun b => AV.agg b.cs) (fun a b => AV.bool (decide (a = b)))] (AV.bool (decide (a = b))) := by
  refine spec_of_awp Try.func171 rfl Try.ntmps171 rfl ?_
  refine awp_len (t := 0) rfl fun hl => ?_
  try simp only [List.length_map] at hl
  refine awp_seq ?_
  refine awp_region ?_
  refine sq_plain rfl rfl rfl (w_assign rfl ev_cb) ?_
  refine sq_nil ?_
  refine awp_seq ?_
  refine awp_seq ?_
  refine awp_region ?_
  refine sq_plain rfl rfl rfl (w_move rfl (ev_tmp rfl)) ?_
  refine sq_plain rfl rfl rfl (w_llen rfl Try.underlying53 (ev_tmp rfl)) ?_
  refine sq_plain rfl rfl rfl (w_move rfl (ev_tmp rfl)) ?_
  refine sq_plain rfl rfl rfl (w_llen rfl Try.underlying53 (ev_tmp rfl)) ?_
  refine sq_plain rfl rfl rfl (w_neq rfl (ev_tmp rfl) (ev_tmp rfl)) ?_
  refine sq_nil ?_
  refine awp_cond (ev_tmp rfl) ?_ ?_
  · intro h14
    have k14 := ne_of_bne h14; try simp only [List.length_map] at k14
    have hab : a ≠ b := by intro hc; subst hc; exact k14 rfl
    refine awp_seq ?_
    refine awp_region ?_
    refine sq_plain rfl rfl rfl (w_assign rfl ev_cb) ?_
    refine sq_nil ?_
    refine awp_ret ?_
    exact retR rfl (rv_tmp' rfl (by exact congrArg AV.bool (by simp [hab])))
  · intro h14
    have k14 := eq_of_bne_false h14; try simp only [List.length_map] at k14
    have heq : a.length = b.length := by omega
    refine awp_skip ?_
    refine awp_seq ?_
    refine awp_seq ?_
    refine awp_region ?_
    refine sq_plain rfl rfl rfl (w_move rfl (ev_tmp rfl)) ?_
    refine sq_plain rfl rfl rfl (w_llen rfl Try.underlying53 (ev_tmp rfl)) ?_
    refine sq_plain rfl rfl rfl (w_move rfl ev_ci) ?_
    refine sq_nil ?_
    refine awp_block ?_
    refine awp_loop_i [(1, _), (2, _), (15, _), (16, _)] _ (fun (i : Nat) => i ≤ a.length ∧ a.take i = b.take i) (fun (i : Nat) => []) (fun (i : Nat) => [(17, AV.int i)]) (fun (i : Nat) => a.length - i) (0) ?_ (le_env ⟨rfl, rfl, rfl, rfl, rfl, trivial⟩) ?_
    · exact ⟨Nat.zero_le _, rfl⟩
    intro i hinv
    refine awp_seq ?_
    refine awp_region ?_
    refine sq_plain rfl rfl rfl (w_lss rfl (ev_tmp rfl) (ev_tmp rfl)) ?_
    refine sq_nil ?_
    refine awp_seq ?_
    refine awp_cond (ev_tmp rfl) ?_ ?_
    · intro h18
      have k18 := of_decide_eq_true h18; try simp only [List.length_map] at k18
      have hlt : i < a.length := by omega
      obtain ⟨x, hx⟩ := get_some hlt
      obtain ⟨y, hy⟩ := get_some (show i < b.length by omega)
      refine awp_skip ?_
      refine awp_seq ?_
      refine awp_block ?_
      refine awp_seq ?_
      refine awp_region ?_
      refine sq_plain rfl rfl rfl (w_move rfl (ev_tmp rfl)) ?_
      refine sq_plain rfl rfl rfl (w_idxm rfl Try.underlying53 Try.sizeOf153 (ev_tmp rfl) (ev_tmp rfl) hx (by first | omega | ((try simp only [List.length_map, List.length_take, List.length_cons, List.length_nil, chunks_len, szR] at *); omega) | (have hc2 := hc; simp only [Bool.and_eq_true, Bool.or_eq_true, Bool.or_eq_false_iff, Bool.and_eq_false_iff, Bool.not_eq_true', Bool.not_eq_false', decide_eq_true_eq, decide_eq_false_iff_not, beq_iff_eq, bne_iff_ne, List.length_map, List.length_take] at hc2; omega))) ?_
      refine sq_plain rfl rfl rfl (w_loadE rfl (ev_tmp rfl) Try.isAgg153 Try.sizeOf153) ?_
      refine sq_alloc rfl rfl rfl rfl Try.zeroValue153 rfl ?_
      intro b8
      refine sq_plain rfl rfl rfl (w_assign rfl (ev_tmp rfl)) ?_
      refine sq_storeB0 0 rfl rfl rfl (ev_tmp rfl) (ev_tmp rfl) (as_agg _) rfl Try.sizeOf153 rfl ?_
      refine sq_nil ?_
      refine awp_seq ?_
      refine awp_region ?_
      refine sq_plain rfl rfl rfl (w_move rfl (ev_tmp rfl)) ?_
      refine sq_plain rfl rfl rfl (w_move rfl (ev_tmp rfl)) ?_
      refine sq_plain rfl rfl rfl (w_idxm rfl Try.underlying53 Try.sizeOf153 (ev_tmp rfl) (ev_tmp rfl) hy (by first | omega | ((try simp only [List.length_map, List.length_take, List.length_cons, List.length_nil, chunks_len, szR] at *); omega) | (have hc2 := hc; simp only [Bool.and_eq_true, Bool.or_eq_true, Bool.or_eq_false_iff, Bool.and_eq_false_iff, Bool.not_eq_true', Bool.not_eq_false', decide_eq_true_eq, decide_eq_false_iff_not, beq_iff_eq, bne_iff_ne, List.length_map, List.length_take] at hc2; omega))) ?_
      refine sq_plain rfl rfl rfl (w_loadE rfl (ev_tmp rfl) Try.isAgg153 Try.sizeOf153) ?_
      refine sq_alloc rfl rfl rfl rfl Try.zeroValue153 rfl ?_
      intro b9
      refine sq_storeB0 0 rfl rfl rfl (ev_tmp rfl) (ev_tmp rfl) (as_agg _) rfl Try.sizeOf153 rfl ?_
      refine sq_nil ?_
      refine awp_seq ?_
      refine awp_region ?_
      refine sq_plain rfl rfl rfl (w_move rfl (ev_tmp rfl)) ?_
      refine sq_plain rfl rfl rfl (w_loadA 1 rfl (ev_tmp rfl) rfl Try.isAgg153 Try.sizeOf153 rfl) ?_
      refine sq_plain rfl rfl rfl (w_loadA 0 rfl (ev_tmp rfl) rfl Try.isAgg153 Try.sizeOf153 rfl) ?_
      refine sq_plain rfl rfl rfl (w_callv2 rfl (ev_tmp rfl) x y (hp x y) (ev_tmp rfl) (ev_tmp rfl)) ?_
      refine sq_plain rfl rfl rfl (w_not rfl (ev_tmp rfl)) ?_
      refine sq_nil ?_
      refine awp_cond (ev_tmp rfl) ?_ ?_
      · intro h30
        have hab : a ≠ b := by intro hc; subst hc; rw [hx] at hy; injection hy with hy; subst hy; simp at h30
        refine awp_seq ?_
        refine awp_region ?_
        refine sq_plain rfl rfl rfl (w_assign rfl ev_cb) ?_
        refine sq_nil ?_
        refine awp_ret ?_
        exact retR rfl (rv_tmp' rfl (by exact congrArg AV.bool (by simp [hab])))
      · intro h30
        refine awp_skip ?_
        refine awp_region ?_
        refine sq_plain rfl rfl rfl (w_addi rfl (ev_tmp rfl) ev_ci (by first | omega | ((try simp only [List.length_map, List.length_take, List.length_cons, List.length_nil, chunks_len, szR] at *); omega) | (have hc2 := hc; simp only [Bool.and_eq_true, Bool.or_eq_true, Bool.or_eq_false_iff, Bool.and_eq_false_iff, Bool.not_eq_true', Bool.not_eq_false', decide_eq_true_eq, decide_eq_false_iff_not, beq_iff_eq, bne_iff_ne, List.length_map, List.length_take] at hc2; omega))) ?_
        refine sq_plain rfl rfl rfl (w_move rfl (ev_tmp rfl)) ?_
        refine sq_nil ?_
        refine round_end i (i + 1) ?_ ?_ (le_drop 2 ⟨rfl, rfl, rfl, rfl, rfl, trivial⟩)
        · exact ⟨by omega, take_eq_succ hinv.2 hx (by rw [hy]; congr 1; simp at h30; exact h30.symm)⟩
        · omega
    · intro h18
      have k18 := of_decide_eq_false h18; try simp only [List.length_map] at k18
      have hge : a.length ≤ i := by omega
      have hab : a = b := take_eq_of heq hinv.2 hge
      refine awp_exit ?_
      refine awp_seq ?_
      refine awp_region ?_
      refine sq_plain rfl rfl rfl (w_assign rfl ev_cb) ?_
      refine sq_nil ?_
      refine awp_ret ?_
      exact retR rfl (rv_tmp' rfl (by exact congrArg AV.bool (by simp [hab])))
theorem sameCells1_spec (x y : TCell) : FSpec Try.prog 172 [AV.agg x.cs, AV.agg y.cs] (AV.bool (decide (x = y))) := by
  refine spec_of_awp Try.func172 rfl Try.ntmps172 rfl ?_
  refine awp_seq ?_
  refine awp_region ?_
  refine sq_box rfl rfl rfl rfl (ev_tmp rfl) ?_
  intro b2
  refine sq_box rfl rfl rfl rfl (ev_tmp rfl) ?_
  intro b3
  refine sq_plain rfl rfl rfl (w_assign rfl ev_cb) ?_
  refine sq_nil ?_
  refine awp_seq ?_
  refine awp_region ?_
  refine sq_plain rfl rfl rfl (w_fldBn 0 rfl Try.underlying153 rfl Try.sizeOf9 (ev_tmp rfl) rfl) ?_
  refine sq_plain rfl rfl rfl (w_loadB1 1 rfl (ev_tmp rfl) rfl Try.isAgg9 rfl) ?_
  refine sq_plain rfl rfl rfl (w_fldBn 0 rfl Try.underlying153 rfl Try.sizeOf9 (ev_tmp rfl) rfl) ?_
  refine sq_plain rfl rfl rfl (w_loadB1 0 rfl (ev_tmp rfl) rfl Try.isAgg9 rfl) ?_
  refine sq_plain rfl rfl rfl (w_seql rfl (ev_tmp rfl) (ev_tmp rfl)) ?_
  refine sq_plain rfl rfl rfl (w_move rfl (ev_tmp rfl)) ?_
  refine sq_grd rfl rfl (guard_t rfl rfl rfl) (fun hc => w_fldBn 1 rfl Try.underlying153 rfl Try.sizeOf151 (ev_tmp rfl) rfl) ?_
  refine sq_grd rfl rfl (guard_t rfl rfl rfl) (fun hc => w_loadB1 1 rfl (ev_whn rfl hc) rfl Try.isAgg151 rfl) ?_
  refine sq_grd rfl rfl (guard_t rfl rfl rfl) (fun hc => w_fldBn 1 rfl Try.underlying153 rfl Try.sizeOf151 (ev_tmp rfl) rfl) ?_
  refine sq_grd rfl rfl (guard_t rfl rfl rfl) (fun hc => w_loadB1 0 rfl (ev_whn rfl hc) rfl Try.isAgg151 rfl) ?_
  refine sq_grd rfl rfl (guard_t rfl rfl rfl) (fun hc => w_call rfl Try.call173 rfl (equalVer_spec _ _) (evl_cons (ev_whn rfl hc) (evl_cons (ev_whn rfl hc) evl_nil))) ?_
  refine sq_plain rfl rfl rfl (w_and rfl (ev_tmp rfl) (evif_w rfl)) ?_
  refine sq_plain rfl rfl rfl (w_assign rfl (ev_tmp rfl)) ?_
  refine sq_nil ?_
  refine awp_ret ?_
  exact retR rfl (rv_tmp' rfl (by exact congrArg AV.bool (by cases x; cases y; simp only [TCell.mk.injEq]; rw [Bool.eq_iff_iff]; simp)))
theorem sameCells_spec (a b : List TCell) : FSpec Try.prog 70 [AV.list 2 (a.map TCell.cs), AV.list 2 (b.map TCell.cs)] (AV.bool (decide (a = b))) := by
  refine spec_of_awp Try.func70 rfl Try.ntmps70 rfl ?_
  refine awp_seq ?_
  refine awp_region ?_
  refine sq_plain rfl rfl rfl (w_assign rfl ev_cb) ?_
  refine sq_nil ?_
  refine awp_seq ?_
  refine awp_region ?_
  refine sq_plain rfl rfl rfl (w_move rfl (ev_tmp rfl)) ?_
  refine sq_plain rfl rfl rfl (w_move rfl (ev_tmp rfl)) ?_
  refine sq_plain rfl rfl rfl (w_call rfl Try.call171 rfl (equalFuncCell_spec _ _ (fun _ _ => True) (fun _ _ => trivial)) (evl_cons (ev_tmp rfl) (evl_cons (ev_tmp rfl) (evl_cons (ev_fun2 Try.call172 (fun x y (_ : True) => sameCells1_spec x y)) evl_nil)))) ?_
  refine sq_plain rfl rfl rfl (w_assign rfl (ev_tmp rfl)) ?_
  refine sq_nil ?_
  refine awp_ret ?_
  exact retR rfl (rv_tmp' rfl (by first | rfl | (refine congrArg AV.bool ?_; simp_all; done)))
theorem sameCellsS_spec (a b : List TCell) (hs : sizeL TCell.size a ≤ 4194304) : FSpec Try.prog 48 [AV.list 2 (a.map TCell.cs), AV.list 2 (b.map TCell.cs)] (AV.bool (decide (a = b))) := by
  refine spec_of_awp Try.func48 rfl Try.ntmps48 rfl ?_
  refine awp_len (t := 0) rfl fun hl => ?_
  try simp only [List.length_map] at hl
  refine awp_seq ?_
  refine awp_region ?_
  refine sq_plain rfl rfl rfl (w_assign rfl ev_cb) ?_
  refine sq_nil ?_
  refine awp_seq ?_
  refine awp_seq ?_
  refine awp_region ?_
  refine sq_plain rfl rfl rfl (w_move rfl (ev_tmp rfl)) ?_
  refine sq_plain rfl rfl rfl (w_llen rfl Try.underlying53 (ev_tmp rfl)) ?_
  refine sq_plain rfl rfl rfl (w_move rfl (ev_tmp rfl)) ?_
  refine sq_plain rfl rfl rfl (w_llen rfl Try.underlying53 (ev_tmp rfl)) ?_
  refine sq_plain rfl rfl rfl (w_neq rfl (ev_tmp rfl) (ev_tmp rfl)) ?_
  refine sq_nil ?_
  refine awp_cond (ev_tmp rfl) ?_ ?_
  · intro h13
    have k13 := ne_of_bne h13; try simp only [List.length_map] at k13
    have hab : a ≠ b := by intro hc; subst hc; exact k13 rfl
    refine awp_seq ?_
    refine awp_region ?_
    refine sq_plain rfl rfl rfl (w_assign rfl ev_cb) ?_
    refine sq_nil ?_
    refine awp_ret ?_
    exact retR rfl (rv_tmp' rfl (by exact congrArg AV.bool (by simp [hab])))
  · intro h13
    have k13 := eq_of_bne_false h13; try simp only [List.length_map] at k13
    have heq : a.length = b.length := by omega
    refine awp_skip ?_
    refine awp_seq ?_
    refine awp_seq ?_
    refine awp_region ?_
    refine sq_plain rfl rfl rfl (w_move rfl (ev_tmp rfl)) ?_
    refine sq_plain rfl rfl rfl (w_llen rfl Try.underlying53 (ev_tmp rfl)) ?_
    refine sq_plain rfl rfl rfl (w_move rfl ev_ci) ?_
    refine sq_nil ?_
    refine awp_block ?_
    refine awp_loop_i [(1, _), (14, _), (15, _)] _ (fun (i : Nat) => i ≤ a.length ∧ a.take i = b.take i) (fun (i : Nat) => []) (fun (i : Nat) => [(16, AV.int i)]) (fun (i : Nat) => a.length - i) (0) ?_ (le_env ⟨rfl, rfl, rfl, rfl, trivial⟩) ?_
    · exact ⟨Nat.zero_le _, rfl⟩
    intro i hinv
    refine awp_seq ?_
    refine awp_region ?_
    refine sq_plain rfl rfl rfl (w_lss rfl (ev_tmp rfl) (ev_tmp rfl)) ?_
    refine sq_nil ?_
    refine awp_seq ?_
    refine awp_cond (ev_tmp rfl) ?_ ?_
    · intro h17
      have k17 := of_decide_eq_true h17; try simp only [List.length_map] at k17
      have hlt : i < a.length := by omega
      obtain ⟨x, hx⟩ := get_some hlt
      obtain ⟨y, hy⟩ := get_some (show i < b.length by omega)
      refine awp_skip ?_
      refine awp_seq ?_
      refine awp_block ?_
      refine awp_seq ?_
      refine awp_region ?_
      refine sq_plain rfl rfl rfl (w_move rfl (ev_tmp rfl)) ?_
      refine sq_plain rfl rfl rfl (w_idxm rfl Try.underlying53 Try.sizeOf153 (ev_tmp rfl) (ev_tmp rfl) hx (by first | omega | ((try simp only [List.length_map, List.length_take, List.length_cons, List.length_nil, chunks_len, szR] at *); omega) | (have hc2 := hc; simp only [Bool.and_eq_true, Bool.or_eq_true, Bool.or_eq_false_iff, Bool.and_eq_false_iff, Bool.not_eq_true', Bool.not_eq_false', decide_eq_true_eq, decide_eq_false_iff_not, beq_iff_eq, bne_iff_ne, List.length_map, List.length_take] at hc2; omega))) ?_
      refine sq_plain rfl rfl rfl (w_loadE rfl (ev_tmp rfl) Try.isAgg153 Try.sizeOf153) ?_
      refine sq_alloc rfl rfl rfl rfl Try.zeroValue153 rfl ?_
      intro b6
      refine sq_plain rfl rfl rfl (w_assign rfl (ev_tmp rfl)) ?_
      refine sq_storeB0 0 rfl rfl rfl (ev_tmp rfl) (ev_tmp rfl) (as_agg _) rfl Try.sizeOf153 rfl ?_
      refine sq_nil ?_
      refine awp_seq ?_
      refine awp_region ?_
      refine sq_plain rfl rfl rfl (w_move rfl (ev_tmp rfl)) ?_
      refine sq_plain rfl rfl rfl (w_move rfl (ev_tmp rfl)) ?_
      refine sq_plain rfl rfl rfl (w_idxm rfl Try.underlying53 Try.sizeOf153 (ev_tmp rfl) (ev_tmp rfl) hy (by first | omega | ((try simp only [List.length_map, List.length_take, List.length_cons, List.length_nil, chunks_len, szR] at *); omega) | (have hc2 := hc; simp only [Bool.and_eq_true, Bool.or_eq_true, Bool.or_eq_false_iff, Bool.and_eq_false_iff, Bool.not_eq_true', Bool.not_eq_false', decide_eq_true_eq, decide_eq_false_iff_not, beq_iff_eq, bne_iff_ne, List.length_map, List.length_take] at hc2; omega))) ?_
      refine sq_plain rfl rfl rfl (w_loadE rfl (ev_tmp rfl) Try.isAgg153 Try.sizeOf153) ?_
      refine sq_alloc rfl rfl rfl rfl Try.zeroValue153 rfl ?_
      intro b7
      refine sq_storeB0 0 rfl rfl rfl (ev_tmp rfl) (ev_tmp rfl) (as_agg _) rfl Try.sizeOf153 rfl ?_
      refine sq_nil ?_
      refine awp_seq ?_
      refine awp_seq ?_
      refine awp_region ?_
      refine sq_plain rfl rfl rfl (w_fldBn 0 rfl Try.underlying153 rfl Try.sizeOf9 (ev_tmp rfl) rfl) ?_
      refine sq_plain rfl rfl rfl (w_loadB1 1 rfl (ev_tmp rfl) rfl Try.isAgg9 rfl) ?_
      refine sq_plain rfl rfl rfl (w_fldBn 0 rfl Try.underlying153 rfl Try.sizeOf9 (ev_tmp rfl) rfl) ?_
      refine sq_plain rfl rfl rfl (w_loadB1 0 rfl (ev_tmp rfl) rfl Try.isAgg9 rfl) ?_
      refine sq_plain rfl rfl rfl (w_sneq rfl (ev_tmp rfl) (ev_tmp rfl)) ?_
      refine sq_plain rfl rfl rfl (w_move rfl (ev_tmp rfl)) ?_
      refine sq_grd rfl rfl (guard_f rfl rfl rfl) (fun hc => w_fldBn 1 rfl Try.underlying153 rfl Try.sizeOf151 (ev_tmp rfl) rfl) ?_
      refine sq_grd rfl rfl (guard_f rfl rfl rfl) (fun hc => w_loadB1 1 rfl (ev_whn rfl hc) rfl Try.isAgg151 rfl) ?_
      refine sq_grd rfl rfl (guard_f rfl rfl rfl) (fun hc => w_llen rfl Try.underlying151 (ev_whn rfl hc)) ?_
      refine sq_grd rfl rfl (guard_f rfl rfl rfl) (fun hc => w_fldBn 1 rfl Try.underlying153 rfl Try.sizeOf151 (ev_tmp rfl) rfl) ?_
      refine sq_grd rfl rfl (guard_f rfl rfl rfl) (fun hc => w_loadB1 0 rfl (ev_whn rfl hc) rfl Try.isAgg151 rfl) ?_
      refine sq_grd rfl rfl (guard_f rfl rfl rfl) (fun hc => w_llen rfl Try.underlying151 (ev_whn rfl hc)) ?_
      refine sq_grd rfl rfl (guard_f rfl rfl rfl) (fun hc => w_neq rfl (ev_whn rfl hc) (ev_whn rfl hc)) ?_
      refine sq_plain rfl rfl rfl (w_or rfl (ev_tmp rfl) (evif_w rfl)) ?_
      refine sq_nil ?_
      refine awp_cond (ev_tmp rfl) ?_ ?_
      · intro h38
        have hab : a ≠ b := by intro hc; subst hc; rw [hx] at hy; injection hy with hy; subst hy; simp at h38
        refine awp_seq ?_
        refine awp_region ?_
        refine sq_plain rfl rfl rfl (w_assign rfl ev_cb) ?_
        refine sq_nil ?_
        refine awp_ret ?_
        exact retR rfl (rv_tmp' rfl (by exact congrArg AV.bool (by simp [hab])))
      · intro h38
        have hke : x.Key = y.Key ∧ x.Vers.length = y.Vers.length := by simp at h38; exact ⟨h38.1, by omega⟩
        refine awp_skip ?_
        refine awp_seq ?_
        refine awp_region ?_
        refine sq_plain rfl rfl rfl (w_fldBn 1 rfl Try.underlying153 rfl Try.sizeOf151 (ev_tmp rfl) rfl) ?_
        refine sq_plain rfl rfl rfl (w_loadB1 1 rfl (ev_tmp rfl) rfl Try.isAgg151 rfl) ?_
        refine sq_plain rfl rfl rfl (w_llen rfl Try.underlying151 (ev_tmp rfl)) ?_
        refine sq_plain rfl rfl rfl (w_move rfl ev_ci) ?_
        refine sq_nil ?_
        refine awp_block ?_
        have hinvo := hinv
        have hxl := (cell_len (Nat.le_trans (sizeL_get hx) hs)).2.1
        refine awp_loop_i [(1, _), (5, _), (6, _), (7, _), (14, _), (15, _), (16, _), (17, _), (18, _), (19, _), (20, _), (21, _), (22, _), (23, _), (24, _), (25, _), (26, _), (27, _), (28, _), (29, _), (30, _), (38, _), (39, _), (40, _), (41, _)] _ (fun (q : Nat) => q ≤ x.Vers.length ∧ x.Vers.take q = y.Vers.take q) (fun (q : Nat) => []) (fun (q : Nat) => [(42, AV.int q)]) (fun (q : Nat) => x.Vers.length - q) (0) ?_ (le_env ⟨rfl, rfl, rfl, rfl, rfl, rfl, rfl, rfl, rfl, rfl, rfl, rfl, rfl, rfl, rfl, rfl, rfl, rfl, rfl, rfl, rfl, rfl, rfl, rfl, rfl, rfl, trivial⟩) ?_
        · exact ⟨Nat.zero_le _, rfl⟩
        intro q hinv
        refine awp_seq ?_
        refine awp_region ?_
        refine sq_plain rfl rfl rfl (w_lss rfl (ev_tmp rfl) (ev_tmp rfl)) ?_
        refine sq_nil ?_
        refine awp_seq ?_
        refine awp_cond (ev_tmp rfl) ?_ ?_
        · intro h43
          have k43 := of_decide_eq_true h43; try simp only [List.length_map] at k43
          have hltq : q < x.Vers.length := by omega
          obtain ⟨u, hu⟩ := get_some hltq
          obtain ⟨w, hw⟩ := get_some (show q < y.Vers.length by omega)
          refine awp_skip ?_
          refine awp_seq ?_
          refine awp_block ?_
          refine awp_seq ?_
          refine awp_region ?_
          refine sq_plain rfl rfl rfl (w_move rfl (ev_tmp rfl)) ?_
          refine sq_plain rfl rfl rfl (w_assign rfl (ev_tmp rfl)) ?_
          refine sq_nil ?_
          refine awp_seq ?_
          refine awp_region_any (by kernel_rfl) (by kernel_rfl) rfl ?_
          refine ch_plain rfl rfl (w_fldBn 1 rfl Try.underlying153 rfl Try.sizeOf151 (ev_tmp rfl) rfl) ?_
          refine ch_plain rfl rfl (w_loadB1 1 rfl (ev_tmp rfl) rfl Try.isAgg151 rfl) ?_
          refine ch_plain rfl rfl (w_move rfl (ev_tmp rfl)) ?_
          refine ch_plain rfl rfl (w_idxm rfl Try.underlying151 Try.sizeOf155 (ev_tmp rfl) (ev_tmp rfl) hu (by first | omega | ((try simp only [List.length_map, List.length_take, List.length_cons, List.length_nil, chunks_len, szR] at *); omega) | (have hc2 := hc; simp only [Bool.and_eq_true, Bool.or_eq_true, Bool.or_eq_false_iff, Bool.and_eq_false_iff, Bool.not_eq_true', Bool.not_eq_false', decide_eq_true_eq, decide_eq_false_iff_not, beq_iff_eq, bne_iff_ne, List.length_map, List.length_take] at hc2; omega))) ?_
          refine ch_plain rfl rfl (w_loadE rfl (ev_tmp rfl) Try.isAgg155 Try.sizeOf155) ?_
          refine ch_plain rfl rfl (w_fldBn 1 rfl Try.underlying153 rfl Try.sizeOf151 (ev_tmp rfl) rfl) ?_
          refine ch_plain rfl rfl (w_loadB1 0 rfl (ev_tmp rfl) rfl Try.isAgg151 rfl) ?_
          refine ch_plain rfl rfl (w_move rfl (ev_tmp rfl)) ?_
          refine ch_plain rfl rfl (w_idxm rfl Try.underlying151 Try.sizeOf155 (ev_tmp rfl) (ev_tmp rfl) hw (by first | omega | ((try simp only [List.length_map, List.length_take, List.length_cons, List.length_nil, chunks_len, szR] at *); omega) | (have hc2 := hc; simp only [Bool.and_eq_true, Bool.or_eq_true, Bool.or_eq_false_iff, Bool.and_eq_false_iff, Bool.not_eq_true', Bool.not_eq_false', decide_eq_true_eq, decide_eq_false_iff_not, beq_iff_eq, bne_iff_ne, List.length_map, List.length_take] at hc2; omega))) ?_
          refine ch_plain rfl rfl (w_loadE rfl (ev_tmp rfl) Try.isAgg155 Try.sizeOf155) ?_
          refine ch_plain rfl rfl (w_aneq rfl Try.underlying155 (by kernel_rfl) (by kernel_rfl) (ev_tmp rfl) (ev_tmp rfl) (eqf_cons (by kernel_rfl) Try.isAgg3 rfl rfl (eqf_int Try.underlying3) (eqf_cons (by kernel_rfl) Try.isAgg9 rfl rfl (eqf_str Try.underlying9) (eqf_cons (by kernel_rfl) Try.isAgg4 rfl rfl (eqf_bool Try.underlying4) eqf_nil)))) ?_
          refine ch_nil ?_
          refine awp_cond (ev_tmp rfl) ?_ ?_
          · intro h55
            have hab : a ≠ b := by intro hc; subst hc; rw [hx] at hy; injection hy with hy; subst hy; rw [hu] at hw; injection hw with hw; subst hw; simp at h55
            refine awp_seq ?_
            refine awp_region ?_
            refine sq_plain rfl rfl rfl (w_assign rfl ev_cb) ?_
            refine sq_nil ?_
            refine awp_ret ?_
            exact retR rfl (rv_tmp' rfl (by exact congrArg AV.bool (by simp [hab])))
          · intro h55
            refine awp_skip ?_
            refine awp_region ?_
            refine sq_plain rfl rfl rfl (w_addi rfl (ev_tmp rfl) ev_ci (by first | omega | ((try simp only [List.length_map, List.length_take, List.length_cons, List.length_nil, chunks_len, szR] at *); omega) | (have hc2 := hc; simp only [Bool.and_eq_true, Bool.or_eq_true, Bool.or_eq_false_iff, Bool.and_eq_false_iff, Bool.not_eq_true', Bool.not_eq_false', decide_eq_true_eq, decide_eq_false_iff_not, beq_iff_eq, bne_iff_ne, List.length_map, List.length_take] at hc2; omega))) ?_
            refine sq_plain rfl rfl rfl (w_move rfl (ev_tmp rfl)) ?_
            refine sq_nil ?_
            refine round_end q (q + 1) ?_ ?_ (le_env ⟨rfl, rfl, rfl, rfl, rfl, rfl, rfl, rfl, rfl, rfl, rfl, rfl, rfl, rfl, rfl, rfl, rfl, rfl, rfl, rfl, rfl, rfl, rfl, rfl, rfl, rfl, trivial⟩)
            · exact ⟨by omega, take_eq_succ hinv.2 hu (by rw [hw]; congr 1; first | (simp_all; done) | (cases u; cases w; simp_all))⟩
            · omega
        · intro h43
          have k43 := of_decide_eq_false h43; try simp only [List.length_map] at k43
          have hgq : x.Vers.length ≤ q := by omega
          have hxv := take_eq_of hke.2 hinv.2 hgq
          have hxy : x = y := by cases x; cases y; simp only [TCell.mk.injEq]; exact ⟨hke.1, hxv⟩
          refine awp_exit ?_
          refine awp_region ?_
          refine sq_plain rfl rfl rfl (w_addi rfl (ev_tmp rfl) ev_ci (by first | omega | ((try simp only [List.length_map, List.length_take, List.length_cons, List.length_nil, chunks_len, szR] at *); omega) | (have hc2 := hc; simp only [Bool.and_eq_true, Bool.or_eq_true, Bool.or_eq_false_iff, Bool.and_eq_false_iff, Bool.not_eq_true', Bool.not_eq_false', decide_eq_true_eq, decide_eq_false_iff_not, beq_iff_eq, bne_iff_ne, List.length_map, List.length_take] at hc2; omega))) ?_
          refine sq_plain rfl rfl rfl (w_move rfl (ev_tmp rfl)) ?_
          refine sq_nil ?_
          refine round_end i (i + 1) ?_ ?_ (le_drop 2 ⟨rfl, rfl, rfl, rfl, trivial⟩)
          · exact ⟨by omega, take_eq_succ hinvo.2 hx (by rw [hy, hxy])⟩
          · omega
    · intro h17
      have k17 := of_decide_eq_false h17; try simp only [List.length_map] at k17
      have hge : a.length ≤ i := by omega
      have hab : a = b := take_eq_of heq hinv.2 hge
      refine awp_exit ?_
      refine awp_seq ?_
      refine awp_region ?_
      refine sq_plain rfl rfl rfl (w_assign rfl ev_cb) ?_
      refine sq_nil ?_
      refine awp_ret ?_
      exact retR rfl (rv_tmp' rfl (by exact congrArg AV.bool (by simp [hab])))
end Go.Proofs.Yteliahajeokciaa
