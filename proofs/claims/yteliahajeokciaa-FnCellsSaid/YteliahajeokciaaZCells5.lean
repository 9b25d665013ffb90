/- Texts of the claim, part 5. -/
import Derived.Test.YteliahajeokciaaZCells4

set_option linter.unusedVariables false
set_option linter.unusedSimpArgs false
set_option maxRecDepth 100000
namespace Go.Proofs.Yteliahajeokciaa
open Go Go.AV Go.M
attribute [local irreducible] OpW OpA OpS AWP FSpec ESpec RetOk RvDen Le Ev GuardIs
theorem cell_len {c : TCell} {n : Nat} (h : c.size ≤ n) : c.Key.length ≤ n ∧ c.Vers.length ≤ n ∧ sizeL TVer.size c.Vers ≤ n := by
  unfold TCell.size at h
  have : c.Vers.length ≤ n := Nat.le_trans sizeL_len (show sizeL TVer.size c.Vers ≤ n by omega)
  omega
theorem isTrue_spec (t : Int) : FSpec Try.prog 141 [AV.int t] (AV.bool (isTrue t)) := by
  refine spec_of_awp Try.func141 rfl Try.ntmps141 rfl ?_
  refine awp_seq ?_
  refine awp_region ?_
  refine sq_plain rfl rfl rfl (w_assign rfl ev_cb) ?_
  refine sq_nil ?_
  refine awp_seq ?_
  refine awp_region ?_
  refine sq_plain rfl rfl rfl (w_move rfl (ev_tmp rfl)) ?_
  refine sq_plain rfl rfl rfl (w_call rfl Try.call108 rfl (within_spec _ _ _) (evl_cons (ev_tmp rfl) (evl_cons ev_ci (evl_cons ev_ci evl_nil)))) ?_
  refine sq_plain rfl rfl rfl (w_assign rfl (ev_tmp rfl)) ?_
  refine sq_nil ?_
  refine awp_ret ?_
  exact retR rfl (rv_tmp' rfl (by first | rfl | (refine congrArg AV.bool ?_; simp_all; done)))
theorem l3Time_spec (t : Int) : FSpec Try.prog 158 [AV.int t] (AV.bool (within t 1 100000)) := by
  refine spec_of_awp Try.func158 rfl Try.ntmps158 rfl ?_
  refine awp_seq ?_
  refine awp_region ?_
  refine sq_plain rfl rfl rfl (w_assign rfl ev_cb) ?_
  refine sq_nil ?_
  refine awp_seq ?_
  refine awp_region ?_
  refine sq_plain rfl rfl rfl (w_move rfl (ev_tmp rfl)) ?_
  refine sq_plain rfl rfl rfl (w_call rfl Try.call110 rfl (l1In_spec _ _ _) (evl_cons (ev_tmp rfl) (evl_cons ev_ci (evl_cons ev_ci evl_nil)))) ?_
  refine sq_plain rfl rfl rfl (w_assign rfl (ev_tmp rfl)) ?_
  refine sq_nil ?_
  refine awp_ret ?_
  exact retR rfl (rv_tmp' rfl (by first | rfl | (refine congrArg AV.bool ?_; simp_all; done)))
theorem l2True_spec (t : Int) : FSpec Try.prog 144 [AV.int t] (AV.bool (isTrue t)) := by
  refine spec_of_awp Try.func144 rfl Try.ntmps144 rfl ?_
  refine awp_seq ?_
  refine awp_region ?_
  refine sq_plain rfl rfl rfl (w_assign rfl ev_cb) ?_
  refine sq_nil ?_
  refine awp_seq ?_
  refine awp_region ?_
  refine sq_plain rfl rfl rfl (w_move rfl (ev_tmp rfl)) ?_
  refine sq_plain rfl rfl rfl (w_call rfl Try.call110 rfl (l1In_spec _ _ _) (evl_cons (ev_tmp rfl) (evl_cons ev_ci (evl_cons ev_ci evl_nil)))) ?_
  refine sq_plain rfl rfl rfl (w_assign rfl (ev_tmp rfl)) ?_
  refine sq_nil ?_
  refine awp_ret ?_
  exact retR rfl (rv_tmp' rfl (by first | rfl | (refine congrArg AV.bool ?_; simp_all; done)))
theorem isCell_spec (c : TCell) (hs : c.size ≤ 4194304) : FSpec Try.prog 146 [AV.agg c.cs] (AV.bool (isCell c)) := by
  have hcl := cell_len hs
  refine spec_of_awp Try.func146 rfl Try.ntmps146 rfl ?_
  refine awp_seq ?_
  refine awp_region ?_
  refine sq_box rfl rfl rfl rfl (ev_tmp rfl) ?_
  intro b1
  refine sq_plain rfl rfl rfl (w_assign rfl ev_cb) ?_
  refine sq_nil ?_
  refine awp_seq ?_
  refine awp_seq ?_
  refine awp_region ?_
  refine sq_plain rfl rfl rfl (w_fldBn 1 rfl Try.underlying153 rfl Try.sizeOf151 (ev_tmp rfl) rfl) ?_
  refine sq_plain rfl rfl rfl (w_loadB1 0 rfl (ev_tmp rfl) rfl Try.isAgg151 rfl) ?_
  refine sq_plain rfl rfl rfl (w_llen rfl Try.underlying151 (ev_tmp rfl)) ?_
  refine sq_plain rfl rfl rfl (w_move rfl ev_ci) ?_
  refine sq_nil ?_
  refine awp_block ?_
  refine awp_loop_i [(1, _), (6, _), (7, _)] _ (fun (i : Nat) => i ≤ c.Vers.length ∧ (c.Vers.all verGood && adj verLess c.Vers) = ((c.Vers.drop i).all verGood && adj verLess (c.Vers.drop (i - 1)))) (fun (i : Nat) => []) (fun (i : Nat) => [(8, AV.int i)]) (fun (i : Nat) => c.Vers.length - i) (0) ?_ (le_env ⟨rfl, rfl, rfl, rfl, trivial⟩) ?_
  · exact ⟨Nat.zero_le _, rfl⟩
  intro i hinv
  refine awp_seq ?_
  refine awp_region ?_
  refine sq_plain rfl rfl rfl (w_lss rfl (ev_tmp rfl) (ev_tmp rfl)) ?_
  refine sq_nil ?_
  refine awp_seq ?_
  refine awp_cond (ev_tmp rfl) ?_ ?_
  · intro h9
    have k9 := of_decide_eq_true h9; try simp only [List.length_map] at k9
    have hlt : i < c.Vers.length := by omega
    obtain ⟨x, hx⟩ := get_some hlt
    obtain ⟨y, hy⟩ := get_some (show i - 1 < c.Vers.length by omega)
    have hsx : x.size ≤ 4194304 := Nat.le_trans (sizeL_get hx) hcl.2.2
    unfold TVer.size at hsx
    refine awp_skip ?_
    refine awp_seq ?_
    refine awp_block ?_
    refine awp_seq ?_
    refine awp_region ?_
    refine sq_plain rfl rfl rfl (w_move rfl (ev_tmp rfl)) ?_
    refine sq_plain rfl rfl rfl (w_idxm rfl Try.underlying151 Try.sizeOf155 (ev_tmp rfl) (ev_tmp rfl) hx (by first | omega | ((try simp only [List.length_map, List.length_take, List.length_cons, List.length_nil, chunks_len, szR] at *); omega) | (have hc2 := hc; simp only [Bool.and_eq_true, Bool.or_eq_true, Bool.or_eq_false_iff, Bool.and_eq_false_iff, Bool.not_eq_true', Bool.not_eq_false', decide_eq_true_eq, decide_eq_false_iff_not, beq_iff_eq, bne_iff_ne, List.length_map, List.length_take] at hc2; omega))) ?_
    refine sq_plain rfl rfl rfl (w_loadE rfl (ev_tmp rfl) Try.isAgg155 Try.sizeOf155) ?_
    refine sq_alloc rfl rfl rfl rfl Try.zeroValue155 rfl ?_
    intro b4
    refine sq_plain rfl rfl rfl (w_assign rfl (ev_tmp rfl)) ?_
    refine sq_storeB0 0 rfl rfl rfl (ev_tmp rfl) (ev_tmp rfl) (as_agg _) rfl Try.sizeOf155 rfl ?_
    refine sq_nil ?_
    refine awp_seq ?_
    refine awp_region_any (by kernel_rfl) (by kernel_rfl) rfl ?_
    refine ch_plain rfl rfl (w_fldBn 0 rfl Try.underlying155 rfl Try.sizeOf3 (ev_tmp rfl) rfl) ?_
    refine ch_plain rfl rfl (w_loadB1 0 rfl (ev_tmp rfl) rfl Try.isAgg3 rfl) ?_
    refine ch_plain rfl rfl (w_call rfl Try.call155 rfl (isTime_spec _) (evl_cons (ev_tmp rfl) evl_nil)) ?_
    refine ch_plain rfl rfl (w_not rfl (ev_tmp rfl)) ?_
    refine ch_plain rfl rfl (w_move rfl (ev_tmp rfl)) ?_
    refine ch_grd rfl (guard_f rfl rfl rfl) (fun hc => w_fldBn 1 rfl Try.underlying155 rfl Try.sizeOf9 (ev_tmp rfl) rfl) ?_
    refine ch_grd rfl (guard_f rfl rfl rfl) (fun hc => w_loadB1 0 rfl (ev_whn rfl hc) rfl Try.isAgg9 rfl) ?_
    refine ch_grd rfl (guard_f rfl rfl rfl) (fun hc => w_fldBn 2 rfl Try.underlying155 rfl Try.sizeOf4 (ev_tmp rfl) rfl) ?_
    refine ch_grd rfl (guard_f rfl rfl rfl) (fun hc => w_loadB1 0 rfl (ev_whn rfl hc) rfl Try.isAgg4 rfl) ?_
    refine ch_grd rfl (guard_f rfl rfl rfl) (fun hc => w_call rfl Try.call163 rfl (isStored_spec _ _ (by omega)) (evl_cons (ev_whn rfl hc) (evl_cons (ev_whn rfl hc) evl_nil))) ?_
    refine ch_grd rfl (guard_f rfl rfl rfl) (fun hc => w_not rfl (ev_whn rfl hc)) ?_
    refine ch_plain rfl rfl (w_or rfl (ev_tmp rfl) (evif_w rfl)) ?_
    refine ch_plain rfl rfl (w_move rfl (ev_tmp rfl)) ?_
    refine ch_grd rfl (guard_f rfl rfl rfl) (fun hc => w_move rfl (ev_tmp rfl)) ?_
    refine ch_grd rfl (guard_f rfl rfl rfl) (fun hc => w_gtr rfl (ev_whn rfl hc) ev_ci) ?_
    refine ch_grd rfl (guard_f rfl rfl rfl) (fun hc => w_move rfl (ev_whn rfl hc)) ?_
    refine ch_grd rfl (guard_wt rfl rfl rfl) (fun hc => w_fldBn 0 rfl Try.underlying155 rfl Try.sizeOf3 (ev_tmp rfl) rfl) ?_
    refine ch_grd rfl (guard_wt rfl rfl rfl) (fun hc => w_loadB1 0 rfl (ev_whn rfl hc) rfl Try.isAgg3 rfl) ?_
    refine ch_grd rfl (guard_wt rfl rfl rfl) (fun hc => w_fldBn 1 rfl Try.underlying153 rfl Try.sizeOf151 (ev_tmp rfl) rfl) ?_
    refine ch_grd rfl (guard_wt rfl rfl rfl) (fun hc => w_loadB1 1 rfl (ev_whn rfl hc) rfl Try.isAgg151 rfl) ?_
    refine ch_grd rfl (guard_wt rfl rfl rfl) (fun hc => w_move rfl (ev_tmp rfl)) ?_
    refine ch_grd rfl (guard_wt rfl rfl rfl) (fun hc => w_subi rfl (ev_whn rfl hc) ev_ci (by first | omega | ((try simp only [List.length_map, List.length_take, List.length_cons, List.length_nil, chunks_len, szR] at *); omega) | (have hc2 := hc; simp only [Bool.and_eq_true, Bool.or_eq_true, Bool.or_eq_false_iff, Bool.and_eq_false_iff, Bool.not_eq_true', Bool.not_eq_false', decide_eq_true_eq, decide_eq_false_iff_not, beq_iff_eq, bne_iff_ne, List.length_map, List.length_take] at hc2; omega))) ?_
    refine ch_grd rfl (guard_wt rfl rfl rfl) (fun hc => w_idxm rfl Try.underlying151 Try.sizeOf155 (ev_whn rfl hc) (ev_whn rfl hc) hy (by first | omega | ((try simp only [List.length_map, List.length_take, List.length_cons, List.length_nil, chunks_len, szR] at *); omega) | (have hc2 := hc; simp only [Bool.and_eq_true, Bool.or_eq_true, Bool.or_eq_false_iff, Bool.and_eq_false_iff, Bool.not_eq_true', Bool.not_eq_false', decide_eq_true_eq, decide_eq_false_iff_not, beq_iff_eq, bne_iff_ne, List.length_map, List.length_take] at hc2; omega))) ?_
    refine ch_grd rfl (guard_wt rfl rfl rfl) (fun hc => w_fldE rfl Try.underlying155 rfl Try.sizeOf3 (ev_whn rfl hc) rfl) ?_
    refine ch_grd rfl (guard_wt rfl rfl rfl) (fun hc => w_loadE1 rfl (ev_whn rfl hc) Try.isAgg3 rfl) ?_
    refine ch_grd rfl (guard_wt rfl rfl rfl) (fun hc => w_leq rfl (ev_whn rfl hc) (ev_whn rfl hc)) ?_
    refine ch_grd rfl (guard_f rfl rfl rfl) (fun hc => w_and rfl (ev_whn rfl hc) (evif_w2 rfl hc)) ?_
    refine ch_plain rfl rfl (w_or rfl (ev_tmp rfl) (evif_w rfl)) ?_
    refine ch_nil ?_
    refine awp_cond (ev_tmp rfl) ?_ ?_
    · intro h40
      have hfin : isCell c = false := by unfold isCell; rw [hinv.2]; cases hg : verGood x with | false => (rw [all_stop hx hg]; simp) | true => (have hb : 0 < i ∧ verLess y x = false := (by unfold verGood at hg; unfold verLess; simp_all; try grind); rw [adj_stop hx hy hb.1 hb.2]; simp)
      refine awp_seq ?_
      refine awp_region ?_
      refine sq_plain rfl rfl rfl (w_assign rfl ev_cb) ?_
      refine sq_nil ?_
      refine awp_ret ?_
      exact retR rfl (rv_tmp' rfl (by first | exact congrArg AV.bool hfin.symm | exact congrArg AV.bool (by unfold isCell; rw [hinv.2, all_end hge, adj_end hge]; simp)))
    · intro h40
      have hg : verGood x = true ∧ (0 < i → verLess y x = true) := by unfold verGood verLess; simp_all
      refine awp_skip ?_
      refine awp_region ?_
      refine sq_plain rfl rfl rfl (w_addi rfl (ev_tmp rfl) ev_ci (by first | omega | ((try simp only [List.length_map, List.length_take, List.length_cons, List.length_nil, chunks_len, szR] at *); omega) | (have hc2 := hc; simp only [Bool.and_eq_true, Bool.or_eq_true, Bool.or_eq_false_iff, Bool.and_eq_false_iff, Bool.not_eq_true', Bool.not_eq_false', decide_eq_true_eq, decide_eq_false_iff_not, beq_iff_eq, bne_iff_ne, List.length_map, List.length_take] at hc2; omega))) ?_
      refine sq_plain rfl rfl rfl (w_move rfl (ev_tmp rfl)) ?_
      refine sq_nil ?_
      refine round_end i (i + 1) ?_ ?_ (le_drop 1 ⟨rfl, rfl, rfl, rfl, trivial⟩)
      · exact ⟨by omega, by rw [hinv.2, all_step hx hg.1, adj_step hx hy hg.2]⟩
      · omega
  · intro h9
    have k9 := of_decide_eq_false h9; try simp only [List.length_map] at k9
    have hge : c.Vers.length ≤ i := by omega
    refine awp_exit ?_
    refine awp_seq ?_
    refine awp_region ?_
    refine sq_plain rfl rfl rfl (w_fldBn 1 rfl Try.underlying153 rfl Try.sizeOf151 (ev_tmp rfl) rfl) ?_
    refine sq_plain rfl rfl rfl (w_loadB1 0 rfl (ev_tmp rfl) rfl Try.isAgg151 rfl) ?_
    refine sq_plain rfl rfl rfl (w_llen rfl Try.underlying151 (ev_tmp rfl)) ?_
    refine sq_plain rfl rfl rfl (w_call rfl Try.call108 rfl (within_spec _ _ _) (evl_cons (ev_tmp rfl) (evl_cons ev_ci (evl_cons ev_ci evl_nil)))) ?_
    refine sq_plain rfl rfl rfl (w_assign rfl (ev_tmp rfl)) ?_
    refine sq_nil ?_
    refine awp_ret ?_
    exact retR rfl (rv_tmp' rfl (by first | exact congrArg AV.bool hfin.symm | exact congrArg AV.bool (by unfold isCell; rw [hinv.2, all_end hge, adj_end hge]; simp)))
theorem l3Cell_spec (c : TCell) (hs : c.size ≤ 4194304) : FSpec Try.prog 232 [AV.agg c.cs] (AV.bool (l3Cell c)) := by
  have hcl := cell_len hs
  refine spec_of_awp Try.func232 rfl Try.ntmps232 rfl ?_
  refine awp_seq ?_
  refine awp_region ?_
  refine sq_box rfl rfl rfl rfl (ev_tmp rfl) ?_
  intro b1
  refine sq_plain rfl rfl rfl (w_assign rfl ev_cb) ?_
  refine sq_nil ?_
  refine awp_seq ?_
  refine awp_seq ?_
  refine awp_region ?_
  refine sq_plain rfl rfl rfl (w_fldBn 1 rfl Try.underlying153 rfl Try.sizeOf151 (ev_tmp rfl) rfl) ?_
  refine sq_plain rfl rfl rfl (w_loadB1 0 rfl (ev_tmp rfl) rfl Try.isAgg151 rfl) ?_
  refine sq_plain rfl rfl rfl (w_llen rfl Try.underlying151 (ev_tmp rfl)) ?_
  refine sq_plain rfl rfl rfl (w_move rfl ev_ci) ?_
  refine sq_nil ?_
  refine awp_block ?_
  refine awp_loop_i [(1, _), (6, _), (7, _)] _ (fun (i : Nat) => i ≤ c.Vers.length ∧ (c.Vers.all (verGoodS c.Key) && adj verLess c.Vers) = ((c.Vers.drop i).all (verGoodS c.Key) && adj verLess (c.Vers.drop (i - 1)))) (fun (i : Nat) => []) (fun (i : Nat) => [(8, AV.int i)]) (fun (i : Nat) => c.Vers.length - i) (0) ?_ (le_env ⟨rfl, rfl, rfl, rfl, trivial⟩) ?_
  · exact ⟨Nat.zero_le _, rfl⟩
  intro i hinv
  refine awp_seq ?_
  refine awp_region ?_
  refine sq_plain rfl rfl rfl (w_lss rfl (ev_tmp rfl) (ev_tmp rfl)) ?_
  refine sq_nil ?_
  refine awp_seq ?_
  refine awp_cond (ev_tmp rfl) ?_ ?_
  · intro h9
    have k9 := of_decide_eq_true h9; try simp only [List.length_map] at k9
    have hlt : i < c.Vers.length := by omega
    obtain ⟨x, hx⟩ := get_some hlt
    obtain ⟨y, hy⟩ := get_some (show i - 1 < c.Vers.length by omega)
    have hsx : x.size ≤ 4194304 := Nat.le_trans (sizeL_get hx) hcl.2.2
    unfold TVer.size at hsx
    refine awp_skip ?_
    refine awp_seq ?_
    refine awp_block ?_
    refine awp_seq ?_
    refine awp_region ?_
    refine sq_plain rfl rfl rfl (w_move rfl (ev_tmp rfl)) ?_
    refine sq_plain rfl rfl rfl (w_idxm rfl Try.underlying151 Try.sizeOf155 (ev_tmp rfl) (ev_tmp rfl) hx (by first | omega | ((try simp only [List.length_map, List.length_take, List.length_cons, List.length_nil, chunks_len, szR] at *); omega) | (have hc2 := hc; simp only [Bool.and_eq_true, Bool.or_eq_true, Bool.or_eq_false_iff, Bool.and_eq_false_iff, Bool.not_eq_true', Bool.not_eq_false', decide_eq_true_eq, decide_eq_false_iff_not, beq_iff_eq, bne_iff_ne, List.length_map, List.length_take] at hc2; omega))) ?_
    refine sq_plain rfl rfl rfl (w_loadE rfl (ev_tmp rfl) Try.isAgg155 Try.sizeOf155) ?_
    refine sq_alloc rfl rfl rfl rfl Try.zeroValue155 rfl ?_
    intro b4
    refine sq_plain rfl rfl rfl (w_assign rfl (ev_tmp rfl)) ?_
    refine sq_storeB0 0 rfl rfl rfl (ev_tmp rfl) (ev_tmp rfl) (as_agg _) rfl Try.sizeOf155 rfl ?_
    refine sq_nil ?_
    refine awp_seq ?_
    refine awp_region_any (by kernel_rfl) (by kernel_rfl) rfl ?_
    refine ch_plain rfl rfl (w_fldBn 0 rfl Try.underlying155 rfl Try.sizeOf3 (ev_tmp rfl) rfl) ?_
    refine ch_plain rfl rfl (w_loadB1 0 rfl (ev_tmp rfl) rfl Try.isAgg3 rfl) ?_
    refine ch_plain rfl rfl (w_call rfl Try.call158 rfl (l3Time_spec _) (evl_cons (ev_tmp rfl) evl_nil)) ?_
    refine ch_plain rfl rfl (w_not rfl (ev_tmp rfl)) ?_
    refine ch_plain rfl rfl (w_move rfl (ev_tmp rfl)) ?_
    refine ch_grd rfl (guard_f rfl rfl rfl) (fun hc => w_fldBn 0 rfl Try.underlying153 rfl Try.sizeOf9 (ev_tmp rfl) rfl) ?_
    refine ch_grd rfl (guard_f rfl rfl rfl) (fun hc => w_loadB1 1 rfl (ev_whn rfl hc) rfl Try.isAgg9 rfl) ?_
    refine ch_grd rfl (guard_f rfl rfl rfl) (fun hc => w_fldBn 1 rfl Try.underlying155 rfl Try.sizeOf9 (ev_tmp rfl) rfl) ?_
    refine ch_grd rfl (guard_f rfl rfl rfl) (fun hc => w_loadB1 0 rfl (ev_whn rfl hc) rfl Try.isAgg9 rfl) ?_
    refine ch_grd rfl (guard_f rfl rfl rfl) (fun hc => w_fldBn 2 rfl Try.underlying155 rfl Try.sizeOf4 (ev_tmp rfl) rfl) ?_
    refine ch_grd rfl (guard_f rfl rfl rfl) (fun hc => w_loadB1 0 rfl (ev_whn rfl hc) rfl Try.isAgg4 rfl) ?_
    refine ch_grd rfl (guard_f rfl rfl rfl) (fun hc => w_call rfl Try.call242 rfl (l3Write_spec _ _ _ (by omega) (by omega)) (evl_cons (ev_whn rfl hc) (evl_cons (ev_whn rfl hc) (evl_cons (ev_whn rfl hc) evl_nil)))) ?_
    refine ch_grd rfl (guard_f rfl rfl rfl) (fun hc => w_not rfl (ev_whn rfl hc)) ?_
    refine ch_plain rfl rfl (w_or rfl (ev_tmp rfl) (evif_w rfl)) ?_
    refine ch_plain rfl rfl (w_move rfl (ev_tmp rfl)) ?_
    refine ch_grd rfl (guard_f rfl rfl rfl) (fun hc => w_move rfl (ev_tmp rfl)) ?_
    refine ch_grd rfl (guard_f rfl rfl rfl) (fun hc => w_gtr rfl (ev_whn rfl hc) ev_ci) ?_
    refine ch_grd rfl (guard_f rfl rfl rfl) (fun hc => w_move rfl (ev_whn rfl hc)) ?_
    refine ch_grd rfl (guard_wt rfl rfl rfl) (fun hc => w_fldBn 1 rfl Try.underlying153 rfl Try.sizeOf151 (ev_tmp rfl) rfl) ?_
    refine ch_grd rfl (guard_wt rfl rfl rfl) (fun hc => w_loadB1 1 rfl (ev_whn rfl hc) rfl Try.isAgg151 rfl) ?_
    refine ch_grd rfl (guard_wt rfl rfl rfl) (fun hc => w_move rfl (ev_tmp rfl)) ?_
    refine ch_grd rfl (guard_wt rfl rfl rfl) (fun hc => w_subi rfl (ev_whn rfl hc) ev_ci (by first | omega | ((try simp only [List.length_map, List.length_take, List.length_cons, List.length_nil, chunks_len, szR] at *); omega) | (have hc2 := hc; simp only [Bool.and_eq_true, Bool.or_eq_true, Bool.or_eq_false_iff, Bool.and_eq_false_iff, Bool.not_eq_true', Bool.not_eq_false', decide_eq_true_eq, decide_eq_false_iff_not, beq_iff_eq, bne_iff_ne, List.length_map, List.length_take] at hc2; omega))) ?_
    refine ch_grd rfl (guard_wt rfl rfl rfl) (fun hc => w_idxm rfl Try.underlying151 Try.sizeOf155 (ev_whn rfl hc) (ev_whn rfl hc) hy (by first | omega | ((try simp only [List.length_map, List.length_take, List.length_cons, List.length_nil, chunks_len, szR] at *); omega) | (have hc2 := hc; simp only [Bool.and_eq_true, Bool.or_eq_true, Bool.or_eq_false_iff, Bool.and_eq_false_iff, Bool.not_eq_true', Bool.not_eq_false', decide_eq_true_eq, decide_eq_false_iff_not, beq_iff_eq, bne_iff_ne, List.length_map, List.length_take] at hc2; omega))) ?_
    refine ch_grd rfl (guard_wt rfl rfl rfl) (fun hc => w_fldE rfl Try.underlying155 rfl Try.sizeOf3 (ev_whn rfl hc) rfl) ?_
    refine ch_grd rfl (guard_wt rfl rfl rfl) (fun hc => w_loadE1 rfl (ev_whn rfl hc) Try.isAgg3 rfl) ?_
    refine ch_grd rfl (guard_wt rfl rfl rfl) (fun hc => w_fldBn 0 rfl Try.underlying155 rfl Try.sizeOf3 (ev_tmp rfl) rfl) ?_
    refine ch_grd rfl (guard_wt rfl rfl rfl) (fun hc => w_loadB1 0 rfl (ev_whn rfl hc) rfl Try.isAgg3 rfl) ?_
    refine ch_grd rfl (guard_wt rfl rfl rfl) (fun hc => w_geq rfl (ev_whn rfl hc) (ev_whn rfl hc)) ?_
    refine ch_grd rfl (guard_f rfl rfl rfl) (fun hc => w_and rfl (ev_whn rfl hc) (evif_w2 rfl hc)) ?_
    refine ch_plain rfl rfl (w_or rfl (ev_tmp rfl) (evif_w rfl)) ?_
    refine ch_nil ?_
    refine awp_cond (ev_tmp rfl) ?_ ?_
    · intro h42
      have hfin : l3Cell c = false := by unfold l3Cell; rw [hinv.2]; cases hg : verGoodS c.Key x with | false => (rw [all_stop hx hg]; simp) | true => (have hb : 0 < i ∧ verLess y x = false := (by unfold verGoodS at hg; unfold verLess; simp_all; try grind); rw [adj_stop hx hy hb.1 hb.2]; simp)
      refine awp_seq ?_
      refine awp_region ?_
      refine sq_plain rfl rfl rfl (w_assign rfl ev_cb) ?_
      refine sq_nil ?_
      refine awp_ret ?_
      exact retR rfl (rv_tmp' rfl (by first | exact congrArg AV.bool hfin.symm | exact congrArg AV.bool (by unfold l3Cell; rw [hinv.2, all_end hge, adj_end hge]; simp)))
    · intro h42
      have hg : verGoodS c.Key x = true ∧ (0 < i → verLess y x = true) := by unfold verGoodS verLess; simp_all
      refine awp_skip ?_
      refine awp_region ?_
      refine sq_plain rfl rfl rfl (w_addi rfl (ev_tmp rfl) ev_ci (by first | omega | ((try simp only [List.length_map, List.length_take, List.length_cons, List.length_nil, chunks_len, szR] at *); omega) | (have hc2 := hc; simp only [Bool.and_eq_true, Bool.or_eq_true, Bool.or_eq_false_iff, Bool.and_eq_false_iff, Bool.not_eq_true', Bool.not_eq_false', decide_eq_true_eq, decide_eq_false_iff_not, beq_iff_eq, bne_iff_ne, List.length_map, List.length_take] at hc2; omega))) ?_
      refine sq_plain rfl rfl rfl (w_move rfl (ev_tmp rfl)) ?_
      refine sq_nil ?_
      refine round_end i (i + 1) ?_ ?_ (le_drop 1 ⟨rfl, rfl, rfl, rfl, trivial⟩)
      · exact ⟨by omega, by rw [hinv.2, all_step hx hg.1, adj_step hx hy hg.2]⟩
      · omega
  · intro h9
    have k9 := of_decide_eq_false h9; try simp only [List.length_map] at k9
    have hge : c.Vers.length ≤ i := by omega
    refine awp_exit ?_
    refine awp_seq ?_
    refine awp_region ?_
    refine sq_plain rfl rfl rfl (w_fldBn 0 rfl Try.underlying153 rfl Try.sizeOf9 (ev_tmp rfl) rfl) ?_
    refine sq_plain rfl rfl rfl (w_loadB1 0 rfl (ev_tmp rfl) rfl Try.isAgg9 rfl) ?_
    refine sq_plain rfl rfl rfl (w_call rfl Try.call166 rfl (l3Key_spec _ (by omega)) (evl_cons (ev_tmp rfl) evl_nil)) ?_
    refine sq_plain rfl rfl rfl (w_move rfl (ev_tmp rfl)) ?_
    refine sq_grd rfl rfl (guard_t rfl rfl rfl) (fun hc => w_fldBn 1 rfl Try.underlying153 rfl Try.sizeOf151 (ev_tmp rfl) rfl) ?_
    refine sq_grd rfl rfl (guard_t rfl rfl rfl) (fun hc => w_loadB1 0 rfl (ev_whn rfl hc) rfl Try.isAgg151 rfl) ?_
    refine sq_grd rfl rfl (guard_t rfl rfl rfl) (fun hc => w_llen rfl Try.underlying151 (ev_whn rfl hc)) ?_
    refine sq_grd rfl rfl (guard_t rfl rfl rfl) (fun hc => w_call rfl Try.call110 rfl (l1In_spec _ _ _) (evl_cons (ev_whn rfl hc) (evl_cons ev_ci (evl_cons ev_ci evl_nil)))) ?_
    refine sq_plain rfl rfl rfl (w_and rfl (ev_tmp rfl) (evif_w rfl)) ?_
    refine sq_plain rfl rfl rfl (w_assign rfl (ev_tmp rfl)) ?_
    refine sq_nil ?_
    refine awp_ret ?_
    exact retR rfl (rv_tmp' rfl (by first | exact congrArg AV.bool hfin.symm | exact congrArg AV.bool (by unfold l3Cell; rw [hinv.2, all_end hge, adj_end hge]; simp)))
theorem goodCells_spec (l : List TCell) (hs : sizeL TCell.size l ≤ 4194304) : FSpec Try.prog 49 [AV.list 2 (l.map TCell.cs)] (AV.bool (goodCells l)) := by
  have hl : l.length ≤ 4194304 := Nat.le_trans sizeL_len hs
  have hks : ∀ k ∈ cKeys l, k.length ≤ 4611686018427387904 := fun k hk => by
    obtain ⟨w, hw, rfl⟩ := List.mem_map.1 hk
    have := cell_len (Nat.le_trans (sizeL_mem hw) hs)
    omega
  refine spec_of_awp Try.func49 rfl Try.ntmps49 rfl ?_
  refine awp_seq ?_
  refine awp_region ?_
  refine sq_plain rfl rfl rfl (w_assign rfl ev_cb) ?_
  refine sq_nil ?_
  refine awp_seq ?_
  refine awp_region ?_
  refine sq_emptyarr rfl rfl rfl rfl Try.underlying29 Try.sizeOf9 ?_
  intro v6
  refine sq_plain rfl rfl rfl (w_assign rfl (ev_tmp rfl)) ?_
  refine sq_nil ?_
  refine awp_seq ?_
  refine awp_seq ?_
  refine awp_region ?_
  refine sq_plain rfl rfl rfl (w_move rfl (ev_tmp rfl)) ?_
  refine sq_plain rfl rfl rfl (w_llen rfl Try.underlying53 (ev_tmp rfl)) ?_
  refine sq_plain rfl rfl rfl (w_move rfl ev_ci) ?_
  refine sq_nil ?_
  refine awp_block ?_
  refine awp_loop_i2 [(0, _), (7, _), (8, _)] _ (fun (i : Nat) (v : Value) => i ≤ l.length ∧ l.all isCell = (l.drop i).all isCell) (fun (i : Nat) (v : Value) => [.arr v 9 1 ((l.take i).map fun w => [AV.str w.Key])]) (fun (i : Nat) (v : Value) => [(3, AV.is v), (9, AV.int i)]) (fun (i : Nat) (v : Value) => l.length - i) (0) (v6) ?_ (le_eq (by rfl) ⟨rfl, rfl, rfl, rfl, rfl, trivial⟩) ?_
  · exact ⟨Nat.zero_le _, rfl⟩
  intro i v hinv
  refine awp_seq ?_
  refine awp_region ?_
  refine sq_plain rfl rfl rfl (w_lss rfl (ev_tmp rfl) (ev_tmp rfl)) ?_
  refine sq_nil ?_
  refine awp_seq ?_
  refine awp_cond (ev_tmp rfl) ?_ ?_
  · intro h10
    have k10 := of_decide_eq_true h10; try simp only [List.length_map] at k10
    have hlt : i < l.length := by omega
    obtain ⟨x, hx⟩ := get_some hlt
    have hsx : x.size ≤ 4194304 := Nat.le_trans (sizeL_get hx) hs
    refine awp_skip ?_
    refine awp_seq ?_
    refine awp_block ?_
    refine awp_seq ?_
    refine awp_region ?_
    refine sq_plain rfl rfl rfl (w_idxm rfl Try.underlying53 Try.sizeOf153 (ev_tmp rfl) (ev_tmp rfl) hx (by first | omega | ((try simp only [List.length_map, List.length_take, List.length_cons, List.length_nil, chunks_len, szR] at *); omega) | (have hc2 := hc; simp only [Bool.and_eq_true, Bool.or_eq_true, Bool.or_eq_false_iff, Bool.and_eq_false_iff, Bool.not_eq_true', Bool.not_eq_false', decide_eq_true_eq, decide_eq_false_iff_not, beq_iff_eq, bne_iff_ne, List.length_map, List.length_take] at hc2; omega))) ?_
    refine sq_plain rfl rfl rfl (w_loadE rfl (ev_tmp rfl) Try.isAgg153 Try.sizeOf153) ?_
    refine sq_alloc rfl rfl rfl rfl Try.zeroValue153 rfl ?_
    intro b5
    refine sq_storeB0 0 rfl rfl rfl (ev_tmp rfl) (ev_tmp rfl) (as_agg _) rfl Try.sizeOf153 rfl ?_
    refine sq_nil ?_
    refine awp_seq ?_
    refine awp_seq ?_
    refine awp_region ?_
    refine sq_plain rfl rfl rfl (w_loadA 0 rfl (ev_tmp rfl) rfl Try.isAgg153 Try.sizeOf153 rfl) ?_
    refine sq_plain rfl rfl rfl (w_call rfl Try.call146 rfl (isCell_spec _ (by first | assumption | omega)) (evl_cons (ev_tmp rfl) evl_nil)) ?_
    refine sq_plain rfl rfl rfl (w_not rfl (ev_tmp rfl)) ?_
    refine sq_nil ?_
    refine awp_cond (ev_tmp rfl) ?_ ?_
    · intro h15
      refine awp_seq ?_
      refine awp_region ?_
      refine sq_plain rfl rfl rfl (w_assign rfl ev_cb) ?_
      refine sq_nil ?_
      refine awp_ret ?_
      exact retR rfl (rv_tmp' rfl (by first | exact congrArg AV.bool (by unfold goodCells; rw [hinv.2, all_stop hx (by simpa using h15)]; rfl) | exact congrArg AV.bool (by unfold goodCells; rw [hinv.2, all_end hge, List.length_map]; simp)))
    · intro h15
      refine awp_skip ?_
      refine awp_region ?_
      refine sq_plain rfl rfl rfl (w_move rfl (ev_tmp rfl)) ?_
      refine sq_plain rfl rfl rfl (w_fldBn 0 rfl Try.underlying153 rfl Try.sizeOf9 (ev_tmp rfl) rfl) ?_
      refine sq_plain rfl rfl rfl (w_loadB1 0 rfl (ev_tmp rfl) rfl Try.isAgg9 rfl) ?_
      refine sq_plain rfl rfl rfl (w_bslice rfl Try.underlying29 Try.sizeOf9 Try.zeroValue9 rfl rfl rfl rfl (bp_cons (ev_tmp rfl) (as_str _) bp_nil) rfl rfl) ?_
      refine sq_append (by' := 16) 1 rfl rfl rfl rfl Try.underlying29 Try.type9 rfl rfl rfl rfl rfl rfl (ev_tmp rfl) (ev_tmp rfl) rfl (by first | omega | ((try simp only [List.length_map, List.length_take, List.length_cons, List.length_nil, chunks_len, szR] at *); omega) | (have hc2 := hc; simp only [Bool.and_eq_true, Bool.or_eq_true, Bool.or_eq_false_iff, Bool.and_eq_false_iff, Bool.not_eq_true', Bool.not_eq_false', decide_eq_true_eq, decide_eq_false_iff_not, beq_iff_eq, bne_iff_ne, List.length_map, List.length_take] at hc2; omega)) ?_
      intro v20_1
      refine sq_plain rfl rfl rfl (w_assign rfl (ev_tmp rfl)) ?_
      refine sq_nil ?_
      refine awp_region ?_
      refine sq_plain rfl rfl rfl (w_addi rfl (ev_tmp rfl) ev_ci (by first | omega | ((try simp only [List.length_map, List.length_take, List.length_cons, List.length_nil, chunks_len, szR] at *); omega) | (have hc2 := hc; simp only [Bool.and_eq_true, Bool.or_eq_true, Bool.or_eq_false_iff, Bool.and_eq_false_iff, Bool.not_eq_true', Bool.not_eq_false', decide_eq_true_eq, decide_eq_false_iff_not, beq_iff_eq, bne_iff_ne, List.length_map, List.length_take] at hc2; omega))) ?_
      refine sq_plain rfl rfl rfl (w_move rfl (ev_tmp rfl)) ?_
      refine sq_nil ?_
      refine round_end2 i v (i + 1) (v20_1) ?_ ?_ (le_dropeq 1 (by exact congrArg (fun z => [Own.arr v20_1 9 1 z]) (take_map_succ (f := fun w : TCell => [AV.str w.Key]) hx)) ⟨rfl, rfl, rfl, rfl, rfl, trivial⟩)
      · exact ⟨by omega, by rw [hinv.2, all_step hx (by simpa using h15)]⟩
      · omega
  · intro h10
    have k10 := of_decide_eq_false h10; try simp only [List.length_map] at k10
    have hge : l.length ≤ i := by omega
    rw [List.take_of_length_le hge, show (l.map fun w => [AV.str w.Key]) = (cKeys l).map (fun k => [AV.str k]) from by unfold cKeys; rw [List.map_map]; rfl]
    refine awp_exit ?_
    refine awp_seq ?_
    refine awp_region ?_
    refine sq_plain rfl rfl rfl (w_move rfl (ev_tmp rfl)) ?_
    refine sq_plain rfl rfl rfl (w_llen rfl Try.underlying53 (ev_tmp rfl)) ?_
    refine sq_plain rfl rfl rfl (w_leq rfl (ev_tmp rfl) ev_ci) ?_
    refine sq_plain rfl rfl rfl (w_move rfl (ev_tmp rfl)) ?_
    refine sq_grd rfl rfl (guard_t rfl rfl rfl) (fun hc => w_move rfl (ev_tmp rfl)) ?_
    refine sq_grd rfl rfl (guard_t rfl rfl rfl) (fun hc => w_callB rfl Try.call147 rfl (areRising_spec (cKeys l) hks) (flat_bool _) (evlb_cons (evb_arr 0 (ev_whn rfl hc) rfl) evlb_nil)) ?_
    refine sq_plain rfl rfl rfl (w_and rfl (ev_tmp rfl) (evif_w rfl)) ?_
    refine sq_plain rfl rfl rfl (w_assign rfl (ev_tmp rfl)) ?_
    refine sq_nil ?_
    refine awp_ret ?_
    exact retR rfl (rv_tmp' rfl (by first | exact congrArg AV.bool (by unfold goodCells; rw [hinv.2, all_stop hx (by simpa using h15)]; rfl) | exact congrArg AV.bool (by unfold goodCells; rw [hinv.2, all_end hge, List.length_map]; simp)))
theorem l3Good_spec (l : List TCell) (hs : sizeL TCell.size l ≤ 4194304) : FSpec Try.prog 143 [AV.list 2 (l.map TCell.cs)] (AV.bool (l3Good l)) := by
  refine spec_of_awp Try.func143 rfl Try.ntmps143 rfl ?_
  refine awp_len (t := 0) rfl fun hl => ?_
  try simp only [List.length_map] at hl
  refine awp_seq ?_
  refine awp_region ?_
  refine sq_plain rfl rfl rfl (w_assign rfl ev_cb) ?_
  refine sq_nil ?_
  refine awp_seq ?_
  refine awp_seq ?_
  refine awp_region ?_
  refine sq_plain rfl rfl rfl (w_move rfl (ev_tmp rfl)) ?_
  refine sq_plain rfl rfl rfl (w_llen rfl Try.underlying53 (ev_tmp rfl)) ?_
  refine sq_plain rfl rfl rfl (w_move rfl ev_ci) ?_
  refine sq_nil ?_
  refine awp_block ?_
  refine awp_loop_i [(0, _), (5, _), (6, _)] _ (fun (i : Nat) => i ≤ l.length ∧ (l.all l3Cell && adj cLess l) = ((l.drop i).all l3Cell && adj cLess (l.drop (i - 1)))) (fun (i : Nat) => []) (fun (i : Nat) => [(7, AV.int i)]) (fun (i : Nat) => l.length - i) (0) ?_ (le_env ⟨rfl, rfl, rfl, rfl, trivial⟩) ?_
  · exact ⟨Nat.zero_le _, rfl⟩
  intro i hinv
  refine awp_seq ?_
  refine awp_region ?_
  refine sq_plain rfl rfl rfl (w_lss rfl (ev_tmp rfl) (ev_tmp rfl)) ?_
  refine sq_nil ?_
  refine awp_seq ?_
  refine awp_cond (ev_tmp rfl) ?_ ?_
  · intro h8
    have k8 := of_decide_eq_true h8; try simp only [List.length_map] at k8
    have hlt : i < l.length := by omega
    obtain ⟨x, hx⟩ := get_some hlt
    obtain ⟨y, hy⟩ := get_some (show i - 1 < l.length by omega)
    have hsx : x.size ≤ 4194304 := Nat.le_trans (sizeL_get hx) hs
    refine awp_skip ?_
    refine awp_seq ?_
    refine awp_block ?_
    refine awp_seq ?_
    refine awp_region ?_
    refine sq_plain rfl rfl rfl (w_move rfl (ev_tmp rfl)) ?_
    refine sq_plain rfl rfl rfl (w_idxm rfl Try.underlying53 Try.sizeOf153 (ev_tmp rfl) (ev_tmp rfl) hx (by first | omega | ((try simp only [List.length_map, List.length_take, List.length_cons, List.length_nil, chunks_len, szR] at *); omega) | (have hc2 := hc; simp only [Bool.and_eq_true, Bool.or_eq_true, Bool.or_eq_false_iff, Bool.and_eq_false_iff, Bool.not_eq_true', Bool.not_eq_false', decide_eq_true_eq, decide_eq_false_iff_not, beq_iff_eq, bne_iff_ne, List.length_map, List.length_take] at hc2; omega))) ?_
    refine sq_plain rfl rfl rfl (w_loadE rfl (ev_tmp rfl) Try.isAgg153 Try.sizeOf153) ?_
    refine sq_alloc rfl rfl rfl rfl Try.zeroValue153 rfl ?_
    intro b4
    refine sq_plain rfl rfl rfl (w_assign rfl (ev_tmp rfl)) ?_
    refine sq_storeB0 0 rfl rfl rfl (ev_tmp rfl) (ev_tmp rfl) (as_agg _) rfl Try.sizeOf153 rfl ?_
    refine sq_nil ?_
    refine awp_seq ?_
    refine awp_region_any (by kernel_rfl) (by kernel_rfl) rfl ?_
    refine ch_plain rfl rfl (w_loadA 0 rfl (ev_tmp rfl) rfl Try.isAgg153 Try.sizeOf153 rfl) ?_
    refine ch_plain rfl rfl (w_call rfl Try.call232 rfl (l3Cell_spec _ (by first | assumption | omega)) (evl_cons (ev_tmp rfl) evl_nil)) ?_
    refine ch_plain rfl rfl (w_not rfl (ev_tmp rfl)) ?_
    refine ch_plain rfl rfl (w_move rfl (ev_tmp rfl)) ?_
    refine ch_grd rfl (guard_f rfl rfl rfl) (fun hc => w_move rfl (ev_tmp rfl)) ?_
    refine ch_grd rfl (guard_f rfl rfl rfl) (fun hc => w_gtr rfl (ev_whn rfl hc) ev_ci) ?_
    refine ch_grd rfl (guard_f rfl rfl rfl) (fun hc => w_move rfl (ev_whn rfl hc)) ?_
    refine ch_grd rfl (guard_wt rfl rfl rfl) (fun hc => w_move rfl (ev_tmp rfl)) ?_
    refine ch_grd rfl (guard_wt rfl rfl rfl) (fun hc => w_move rfl (ev_tmp rfl)) ?_
    refine ch_grd rfl (guard_wt rfl rfl rfl) (fun hc => w_subi rfl (ev_whn rfl hc) ev_ci (by first | omega | ((try simp only [List.length_map, List.length_take, List.length_cons, List.length_nil, chunks_len, szR] at *); omega) | (have hc2 := hc; simp only [Bool.and_eq_true, Bool.or_eq_true, Bool.or_eq_false_iff, Bool.and_eq_false_iff, Bool.not_eq_true', Bool.not_eq_false', decide_eq_true_eq, decide_eq_false_iff_not, beq_iff_eq, bne_iff_ne, List.length_map, List.length_take] at hc2; omega))) ?_
    refine ch_grd rfl (guard_wt rfl rfl rfl) (fun hc => w_idxm rfl Try.underlying53 Try.sizeOf153 (ev_whn rfl hc) (ev_whn rfl hc) hy (by first | omega | ((try simp only [List.length_map, List.length_take, List.length_cons, List.length_nil, chunks_len, szR] at *); omega) | (have hc2 := hc; simp only [Bool.and_eq_true, Bool.or_eq_true, Bool.or_eq_false_iff, Bool.and_eq_false_iff, Bool.not_eq_true', Bool.not_eq_false', decide_eq_true_eq, decide_eq_false_iff_not, beq_iff_eq, bne_iff_ne, List.length_map, List.length_take] at hc2; omega))) ?_
    refine ch_grd rfl (guard_wt rfl rfl rfl) (fun hc => w_fldE rfl Try.underlying153 rfl Try.sizeOf9 (ev_whn rfl hc) rfl) ?_
    refine ch_grd rfl (guard_wt rfl rfl rfl) (fun hc => w_loadE1 rfl (ev_whn rfl hc) Try.isAgg9 rfl) ?_
    refine ch_grd rfl (guard_wt rfl rfl rfl) (fun hc => w_fldBn 0 rfl Try.underlying153 rfl Try.sizeOf9 (ev_tmp rfl) rfl) ?_
    refine ch_grd rfl (guard_wt rfl rfl rfl) (fun hc => w_loadB1 0 rfl (ev_whn rfl hc) rfl Try.isAgg9 rfl) ?_
    refine ch_grd rfl (guard_wt rfl rfl rfl) (fun hc => w_sgeq rfl (ev_whn rfl hc) (ev_whn rfl hc)) ?_
    refine ch_grd rfl (guard_f rfl rfl rfl) (fun hc => w_and rfl (ev_whn rfl hc) (evif_w2 rfl hc)) ?_
    refine ch_plain rfl rfl (w_or rfl (ev_tmp rfl) (evif_w rfl)) ?_
    refine ch_nil ?_
    refine awp_cond (ev_tmp rfl) ?_ ?_
    · intro h29
      have hfin : l3Good l = false := by unfold l3Good; rw [hinv.2]; cases hg : l3Cell x with | false => (rw [all_stop hx hg]; simp) | true => (have hb : 0 < i ∧ cLess y x = false := (by unfold cLess; simp_all; try grind); rw [adj_stop hx hy hb.1 hb.2]; simp)
      refine awp_seq ?_
      refine awp_region ?_
      refine sq_plain rfl rfl rfl (w_assign rfl ev_cb) ?_
      refine sq_nil ?_
      refine awp_ret ?_
      exact retR rfl (rv_tmp' rfl (by first | exact congrArg AV.bool hfin.symm | exact congrArg AV.bool (by unfold l3Good; rw [hinv.2, all_end hge, adj_end hge, List.length_map]; simp)))
    · intro h29
      have hg : l3Cell x = true ∧ (0 < i → cLess y x = true) := by unfold cLess; simp_all
      refine awp_skip ?_
      refine awp_region ?_
      refine sq_plain rfl rfl rfl (w_addi rfl (ev_tmp rfl) ev_ci (by first | omega | ((try simp only [List.length_map, List.length_take, List.length_cons, List.length_nil, chunks_len, szR] at *); omega) | (have hc2 := hc; simp only [Bool.and_eq_true, Bool.or_eq_true, Bool.or_eq_false_iff, Bool.and_eq_false_iff, Bool.not_eq_true', Bool.not_eq_false', decide_eq_true_eq, decide_eq_false_iff_not, beq_iff_eq, bne_iff_ne, List.length_map, List.length_take] at hc2; omega))) ?_
      refine sq_plain rfl rfl rfl (w_move rfl (ev_tmp rfl)) ?_
      refine sq_nil ?_
      refine round_end i (i + 1) ?_ ?_ (le_drop 1 ⟨rfl, rfl, rfl, rfl, trivial⟩)
      · exact ⟨by omega, by rw [hinv.2, all_step hx hg.1, adj_step hx hy hg.2]⟩
      · omega
  · intro h8
    have k8 := of_decide_eq_false h8; try simp only [List.length_map] at k8
    have hge : l.length ≤ i := by omega
    refine awp_exit ?_
    refine awp_seq ?_
    refine awp_region ?_
    refine sq_plain rfl rfl rfl (w_move rfl (ev_tmp rfl)) ?_
    refine sq_plain rfl rfl rfl (w_llen rfl Try.underlying53 (ev_tmp rfl)) ?_
    refine sq_plain rfl rfl rfl (w_leq rfl (ev_tmp rfl) ev_ci) ?_
    refine sq_plain rfl rfl rfl (w_assign rfl (ev_tmp rfl)) ?_
    refine sq_nil ?_
    refine awp_ret ?_
    exact retR rfl (rv_tmp' rfl (by first | exact congrArg AV.bool hfin.symm | exact congrArg AV.bool (by unfold l3Good; rw [hinv.2, all_end hge, adj_end hge, List.length_map]; simp)))
theorem goodCellsS_spec (l : List TCell) (hs : sizeL TCell.size l ≤ 4194304) : FSpec Try.prog 61 [AV.list 2 (l.map TCell.cs)] (AV.bool (l3Good l)) := by
  refine spec_of_awp Try.func61 rfl Try.ntmps61 rfl ?_
  refine awp_seq ?_
  refine awp_region ?_
  refine sq_plain rfl rfl rfl (w_assign rfl ev_cb) ?_
  refine sq_nil ?_
  refine awp_seq ?_
  refine awp_region ?_
  refine sq_plain rfl rfl rfl (w_move rfl (ev_tmp rfl)) ?_
  refine sq_plain rfl rfl rfl (w_call rfl Try.call143 rfl (l3Good_spec _ (by first | assumption | omega)) (evl_cons (ev_tmp rfl) evl_nil)) ?_
  refine sq_plain rfl rfl rfl (w_assign rfl (ev_tmp rfl)) ?_
  refine sq_nil ?_
  refine awp_ret ?_
  exact retR rfl (rv_tmp' rfl (by first | rfl | (refine congrArg AV.bool ?_; simp_all; done)))
theorem findCell1_spec (c : TCell) (k : Str) : FSpec Try.prog 276 [AV.agg c.cs, AV.str k] (AV.int (cCmp k c)) := by
  refine spec_of_awp Try.func276 rfl Try.ntmps276 rfl ?_
  refine awp_seq ?_
  refine awp_region ?_
  refine sq_box rfl rfl rfl rfl (ev_tmp rfl) ?_
  intro b2
  refine sq_plain rfl rfl rfl (w_assign rfl ev_ci) ?_
  refine sq_nil ?_
  refine awp_seq ?_
  refine awp_region ?_
  refine sq_plain rfl rfl rfl (w_fldBn 0 rfl Try.underlying153 rfl Try.sizeOf9 (ev_tmp rfl) rfl) ?_
  refine sq_plain rfl rfl rfl (w_loadB1 0 rfl (ev_tmp rfl) rfl Try.isAgg9 rfl) ?_
  refine sq_plain rfl rfl rfl (w_move rfl (ev_tmp rfl)) ?_
  refine sq_plain rfl rfl rfl (w_call rfl Try.call268 rfl (cmpStr_spec _ _) (evl_cons (ev_tmp rfl) (evl_cons (ev_tmp rfl) evl_nil))) ?_
  refine sq_plain rfl rfl rfl (w_assign rfl (ev_tmp rfl)) ?_
  refine sq_nil ?_
  refine awp_ret ?_
  exact retR rfl (rv_tmp' rfl (by first | rfl | (refine congrArg AV.bool ?_; simp_all; done)))
theorem findCell_spec (l : List TCell) (k : Str) (hs : l.length ≤ 4611686018427387903) : FSpec Try.prog 234 [AV.list 2 (l.map TCell.cs), AV.str k] (AV.tup [AV.int (cPos l k), AV.bool (cHas l k)]) := by
  refine spec_of_awp Try.func234 rfl Try.ntmps234 rfl ?_
  refine awp_seq ?_
  refine awp_region ?_
  refine sq_plain rfl rfl rfl (w_assign rfl ev_ci) ?_
  refine sq_plain rfl rfl rfl (w_assign rfl ev_cb) ?_
  refine sq_nil ?_
  refine awp_seq ?_
  refine awp_region ?_
  refine sq_plain rfl rfl rfl (w_move rfl (ev_tmp rfl)) ?_
  refine sq_plain rfl rfl rfl (w_move rfl (ev_tmp rfl)) ?_
  refine sq_plain rfl rfl rfl (w_call rfl Try.call275 rfl (binSearchCellStr_spec _ _ _ (by first | (intros; trivial) | assumption | (intros; first | trivial | (simp_all; done))) _ (by omega)) (evl_cons (ev_tmp rfl) (evl_cons (ev_tmp rfl) (evl_cons (ev_fun2 Try.call276 (fun c k (_ : True) => findCell1_spec c k)) evl_nil)))) ?_
  refine sq_plain rfl rfl rfl (w_extract rfl (ev_tmp rfl) rfl) ?_
  refine sq_plain rfl rfl rfl (w_extract rfl (ev_tmp rfl) rfl) ?_
  refine sq_plain rfl rfl rfl (w_assign rfl (ev_tmp rfl)) ?_
  refine sq_plain rfl rfl rfl (w_assign rfl (ev_tmp rfl)) ?_
  refine sq_nil ?_
  refine awp_ret ?_
  exact retN rfl (by decide) (rv_cons (rv_tmp' rfl (by first | rfl | (refine congrArg AV.bool ?_; simp_all; done))) (rv_cons (rv_tmp' rfl (by first | rfl | (refine congrArg AV.bool ?_; simp_all; done))) rv_nil))
theorem lastV_get {c : TCell} (h : 1 ≤ c.Vers.length) : ∃ v, c.Vers[c.Vers.length - 1]? = some v ∧ lastV c = v.Time := by
  obtain ⟨v, hv⟩ := get_some (show c.Vers.length - 1 < c.Vers.length by omega)
  refine ⟨v, hv, ?_⟩
  unfold lastV; rw [List.getLast?_eq_getElem?, hv]
theorem lastTime_spec (l : List TCell) (k : Str) (ho : CellsOk l) (hs : sizeL TCell.size l ≤ 4194304) : FSpec Try.prog 164 [AV.list 2 (l.map TCell.cs), AV.str k] (AV.int (lastTime l k)) := by
  have hl : l.length ≤ 4194304 := Nat.le_trans sizeL_len hs
  refine spec_of_awp Try.func164 rfl Try.ntmps164 rfl ?_
  refine awp_seq ?_
  refine awp_region ?_
  refine sq_plain rfl rfl rfl (w_assign rfl ev_ci) ?_
  refine sq_nil ?_
  refine awp_seq ?_
  refine awp_region ?_
  refine sq_plain rfl rfl rfl (w_move rfl (ev_tmp rfl)) ?_
  refine sq_plain rfl rfl rfl (w_move rfl (ev_tmp rfl)) ?_
  refine sq_plain rfl rfl rfl (w_call rfl Try.call234 rfl (findCell_spec _ _ (by first | assumption | omega)) (evl_cons (ev_tmp rfl) (evl_cons (ev_tmp rfl) evl_nil))) ?_
  refine sq_plain rfl rfl rfl (w_move rfl (ev_tmp rfl)) ?_
  refine sq_plain rfl rfl rfl (w_extract rfl (ev_tmp rfl) rfl) ?_
  refine sq_plain rfl rfl rfl (w_extract rfl (ev_tmp rfl) rfl) ?_
  refine sq_plain rfl rfl rfl (w_assign rfl (ev_tmp rfl)) ?_
  refine sq_plain rfl rfl rfl (w_assign rfl (ev_tmp rfl)) ?_
  refine sq_nil ?_
  refine awp_seq ?_
  refine awp_seq ?_
  refine awp_region ?_
  refine sq_plain rfl rfl rfl (w_move rfl (ev_tmp rfl)) ?_
  refine sq_plain rfl rfl rfl (w_not rfl (ev_tmp rfl)) ?_
  refine sq_nil ?_
  refine awp_cond (ev_tmp rfl) ?_ ?_
  · intro h14
    have hn : cHas l k = false := by simpa using h14
    have he : lastTime l k = 0 := by unfold lastTime; rw [findC_eq ho.1, hn]; rfl
    rw [he]
    refine awp_seq ?_
    refine awp_region ?_
    refine sq_plain rfl rfl rfl (w_assign rfl ev_ci) ?_
    refine sq_nil ?_
    refine awp_ret ?_
    exact retR rfl (rv_tmp' rfl (by first | rfl | (refine congrArg AV.bool ?_; simp_all; done)))
  · intro h14
    have hn : cHas l k = true := by simpa using h14
    obtain ⟨c, hc, hck⟩ := cHas_iff.1 hn
    obtain ⟨v, hv, hlv⟩ := lastV_get (ho.2 c (List.mem_of_getElem? hc))
    have hcl := cell_len (Nat.le_trans (sizeL_get hc) hs)
    have hc1 := ho.2 c (List.mem_of_getElem? hc)
    have he : lastTime l k = v.Time := by unfold lastTime; rw [findC_eq ho.1, hn, if_pos rfl, hc]; exact hlv
    rw [he]
    refine awp_skip ?_
    refine awp_seq ?_
    refine awp_region_any (by kernel_rfl) (by kernel_rfl) rfl ?_
    refine ch_plain rfl rfl (w_move rfl (ev_tmp rfl)) ?_
    refine ch_plain rfl rfl (w_move rfl (ev_tmp rfl)) ?_
    refine ch_plain rfl rfl (w_idxm rfl Try.underlying53 Try.sizeOf153 (ev_tmp rfl) (ev_tmp rfl) hc (by first | omega | ((try simp only [List.length_map, List.length_take, List.length_cons, List.length_nil, chunks_len, szR] at *); omega) | (have hc2 := hc; simp only [Bool.and_eq_true, Bool.or_eq_true, Bool.or_eq_false_iff, Bool.and_eq_false_iff, Bool.not_eq_true', Bool.not_eq_false', decide_eq_true_eq, decide_eq_false_iff_not, beq_iff_eq, bne_iff_ne, List.length_map, List.length_take] at hc2; omega))) ?_
    refine ch_plain rfl rfl (w_fldE rfl Try.underlying153 rfl Try.sizeOf151 (ev_tmp rfl) rfl) ?_
    refine ch_plain rfl rfl (w_loadE1 rfl (ev_tmp rfl) Try.isAgg151 rfl) ?_
    refine ch_plain rfl rfl (w_move rfl (ev_tmp rfl)) ?_
    refine ch_plain rfl rfl (w_move rfl (ev_tmp rfl)) ?_
    refine ch_plain rfl rfl (w_idxm rfl Try.underlying53 Try.sizeOf153 (ev_tmp rfl) (ev_tmp rfl) hc (by first | omega | ((try simp only [List.length_map, List.length_take, List.length_cons, List.length_nil, chunks_len, szR] at *); omega) | (have hc2 := hc; simp only [Bool.and_eq_true, Bool.or_eq_true, Bool.or_eq_false_iff, Bool.and_eq_false_iff, Bool.not_eq_true', Bool.not_eq_false', decide_eq_true_eq, decide_eq_false_iff_not, beq_iff_eq, bne_iff_ne, List.length_map, List.length_take] at hc2; omega))) ?_
    refine ch_plain rfl rfl (w_fldE rfl Try.underlying153 rfl Try.sizeOf151 (ev_tmp rfl) rfl) ?_
    refine ch_plain rfl rfl (w_loadE1 rfl (ev_tmp rfl) Try.isAgg151 rfl) ?_
    refine ch_plain rfl rfl (w_llen rfl Try.underlying151 (ev_tmp rfl)) ?_
    refine ch_plain rfl rfl (w_subi rfl (ev_tmp rfl) ev_ci (by first | omega | ((try simp only [List.length_map, List.length_take, List.length_cons, List.length_nil, chunks_len, szR] at *); omega) | (have hc2 := hc; simp only [Bool.and_eq_true, Bool.or_eq_true, Bool.or_eq_false_iff, Bool.and_eq_false_iff, Bool.not_eq_true', Bool.not_eq_false', decide_eq_true_eq, decide_eq_false_iff_not, beq_iff_eq, bne_iff_ne, List.length_map, List.length_take] at hc2; omega))) ?_
    refine ch_plain rfl rfl (w_idxm rfl Try.underlying151 Try.sizeOf155 (ev_tmp rfl) (ev_tmp rfl) hv (by first | omega | ((try simp only [List.length_map, List.length_take, List.length_cons, List.length_nil, chunks_len, szR] at *); omega) | (have hc2 := hc; simp only [Bool.and_eq_true, Bool.or_eq_true, Bool.or_eq_false_iff, Bool.and_eq_false_iff, Bool.not_eq_true', Bool.not_eq_false', decide_eq_true_eq, decide_eq_false_iff_not, beq_iff_eq, bne_iff_ne, List.length_map, List.length_take] at hc2; omega))) ?_
    refine ch_plain rfl rfl (w_fldE rfl Try.underlying155 rfl Try.sizeOf3 (ev_tmp rfl) rfl) ?_
    refine ch_plain rfl rfl (w_loadE1 rfl (ev_tmp rfl) Try.isAgg3 rfl) ?_
    refine ch_plain rfl rfl (w_assign rfl (ev_tmp rfl)) ?_
    refine ch_nil ?_
    refine awp_ret ?_
    exact retR rfl (rv_tmp' rfl (by first | rfl | (refine congrArg AV.bool ?_; simp_all; done)))
theorem l3At_spec (l : List TCell) (k : Str) : FSpec Try.prog 244 [AV.list 2 (l.map TCell.cs), AV.str k] (AV.int (atC l k)) := by
  refine spec_of_awp Try.func244 rfl Try.ntmps244 rfl ?_
  refine awp_len (t := 0) rfl fun hl => ?_
  try simp only [List.length_map] at hl
  refine awp_seq ?_
  refine awp_region ?_
  refine sq_plain rfl rfl rfl (w_assign rfl ev_ci) ?_
  refine sq_nil ?_
  refine awp_seq ?_
  refine awp_seq ?_
  refine awp_region ?_
  refine sq_plain rfl rfl rfl (w_move rfl (ev_tmp rfl)) ?_
  refine sq_plain rfl rfl rfl (w_llen rfl Try.underlying53 (ev_tmp rfl)) ?_
  refine sq_plain rfl rfl rfl (w_move rfl ev_ci) ?_
  refine sq_nil ?_
  refine awp_block ?_
  refine awp_loop_i [(1, _), (7, _), (8, _)] _ (fun (i : Nat) => i ≤ l.length ∧ ∀ j x, j < i → l[j]? = some x → x.Key ≠ k) (fun (i : Nat) => []) (fun (i : Nat) => [(9, AV.int i)]) (fun (i : Nat) => l.length - i) (0) ?_ (le_env ⟨rfl, rfl, rfl, rfl, trivial⟩) ?_
  · exact ⟨Nat.zero_le _, fun j x h => by omega⟩
  intro i hinv
  refine awp_seq ?_
  refine awp_region ?_
  refine sq_plain rfl rfl rfl (w_lss rfl (ev_tmp rfl) (ev_tmp rfl)) ?_
  refine sq_nil ?_
  refine awp_seq ?_
  refine awp_cond (ev_tmp rfl) ?_ ?_
  · intro h10
    have k10 := of_decide_eq_true h10; try simp only [List.length_map] at k10
    have hlt : i < l.length := by omega
    obtain ⟨x, hx⟩ := get_some hlt
    refine awp_skip ?_
    refine awp_seq ?_
    refine awp_block ?_
    refine awp_seq ?_
    refine awp_region ?_
    refine sq_plain rfl rfl rfl (w_move rfl (ev_tmp rfl)) ?_
    refine sq_plain rfl rfl rfl (w_idxm rfl Try.underlying53 Try.sizeOf153 (ev_tmp rfl) (ev_tmp rfl) hx (by first | omega | ((try simp only [List.length_map, List.length_take, List.length_cons, List.length_nil, chunks_len, szR] at *); omega) | (have hc2 := hc; simp only [Bool.and_eq_true, Bool.or_eq_true, Bool.or_eq_false_iff, Bool.and_eq_false_iff, Bool.not_eq_true', Bool.not_eq_false', decide_eq_true_eq, decide_eq_false_iff_not, beq_iff_eq, bne_iff_ne, List.length_map, List.length_take] at hc2; omega))) ?_
    refine sq_plain rfl rfl rfl (w_loadE rfl (ev_tmp rfl) Try.isAgg153 Try.sizeOf153) ?_
    refine sq_alloc rfl rfl rfl rfl Try.zeroValue153 rfl ?_
    intro b6
    refine sq_plain rfl rfl rfl (w_assign rfl (ev_tmp rfl)) ?_
    refine sq_storeB0 0 rfl rfl rfl (ev_tmp rfl) (ev_tmp rfl) (as_agg _) rfl Try.sizeOf153 rfl ?_
    refine sq_nil ?_
    refine awp_seq ?_
    refine awp_region ?_
    refine sq_plain rfl rfl rfl (w_fldBn 0 rfl Try.underlying153 rfl Try.sizeOf9 (ev_tmp rfl) rfl) ?_
    refine sq_plain rfl rfl rfl (w_loadB1 0 rfl (ev_tmp rfl) rfl Try.isAgg9 rfl) ?_
    refine sq_plain rfl rfl rfl (w_move rfl (ev_tmp rfl)) ?_
    refine sq_plain rfl rfl rfl (w_seql rfl (ev_tmp rfl) (ev_tmp rfl)) ?_
    refine sq_nil ?_
    refine awp_cond (ev_tmp rfl) ?_ ?_
    · intro h17
      refine awp_seq ?_
      refine awp_region ?_
      refine sq_plain rfl rfl rfl (w_move rfl (ev_tmp rfl)) ?_
      refine sq_plain rfl rfl rfl (w_assign rfl (ev_tmp rfl)) ?_
      refine sq_nil ?_
      refine awp_ret ?_
      exact retR rfl (rv_tmp' rfl (by first | exact congrArg AV.int (atC_some hx (by simpa using h17) hinv.2).symm | exact congrArg AV.int (atC_none fun j x hx => hinv.2 j x (Nat.lt_of_lt_of_le (List.getElem?_eq_some_iff.1 hx).1 hge) hx).symm))
    · intro h17
      refine awp_skip ?_
      refine awp_region ?_
      refine sq_plain rfl rfl rfl (w_addi rfl (ev_tmp rfl) ev_ci (by first | omega | ((try simp only [List.length_map, List.length_take, List.length_cons, List.length_nil, chunks_len, szR] at *); omega) | (have hc2 := hc; simp only [Bool.and_eq_true, Bool.or_eq_true, Bool.or_eq_false_iff, Bool.and_eq_false_iff, Bool.not_eq_true', Bool.not_eq_false', decide_eq_true_eq, decide_eq_false_iff_not, beq_iff_eq, bne_iff_ne, List.length_map, List.length_take] at hc2; omega))) ?_
      refine sq_plain rfl rfl rfl (w_move rfl (ev_tmp rfl)) ?_
      refine sq_nil ?_
      refine round_end i (i + 1) ?_ ?_ (le_drop 1 ⟨rfl, rfl, rfl, rfl, trivial⟩)
      · exact ⟨by omega, fun j y hj hy => if hji : j < i then hinv.2 j y hji hy else (by have e : j = i := (by omega); subst e; rw [hx] at hy; injection hy with hy; subst hy; simpa using h17)⟩
      · omega
  · intro h10
    have k10 := of_decide_eq_false h10; try simp only [List.length_map] at k10
    have hge : l.length ≤ i := by omega
    refine awp_exit ?_
    refine awp_seq ?_
    refine awp_region ?_
    refine sq_plain rfl rfl rfl (w_assign rfl ev_ci) ?_
    refine sq_nil ?_
    refine awp_ret ?_
    exact retR rfl (rv_tmp' rfl (by first | exact congrArg AV.int (atC_some hx (by simpa using h17) hinv.2).symm | exact congrArg AV.int (atC_none fun j x hx => hinv.2 j x (Nat.lt_of_lt_of_le (List.getElem?_eq_some_iff.1 hx).1 hge) hx).symm))
theorem l3Last_spec (l : List TCell) (k : Str) (ho : CellsOk l) (hs : sizeL TCell.size l ≤ 4194304) : FSpec Try.prog 168 [AV.list 2 (l.map TCell.cs), AV.str k] (AV.int (lastTime l k)) := by
  have hl : l.length ≤ 4194304 := Nat.le_trans sizeL_len hs
  refine spec_of_awp Try.func168 rfl Try.ntmps168 rfl ?_
  refine awp_seq ?_
  refine awp_region ?_
  refine sq_plain rfl rfl rfl (w_assign rfl ev_ci) ?_
  refine sq_nil ?_
  refine awp_seq ?_
  refine awp_region ?_
  refine sq_plain rfl rfl rfl (w_move rfl (ev_tmp rfl)) ?_
  refine sq_plain rfl rfl rfl (w_move rfl (ev_tmp rfl)) ?_
  refine sq_plain rfl rfl rfl (w_call rfl Try.call244 rfl (l3At_spec _ _) (evl_cons (ev_tmp rfl) (evl_cons (ev_tmp rfl) evl_nil))) ?_
  refine sq_plain rfl rfl rfl (w_assign rfl (ev_tmp rfl)) ?_
  refine sq_nil ?_
  refine awp_seq ?_
  refine awp_seq ?_
  refine awp_region ?_
  refine sq_plain rfl rfl rfl (w_move rfl (ev_tmp rfl)) ?_
  refine sq_plain rfl rfl rfl (w_lss rfl (ev_tmp rfl) ev_ci) ?_
  refine sq_nil ?_
  refine awp_cond (ev_tmp rfl) ?_ ?_
  · intro h10
    have k10 := of_decide_eq_true h10; try simp only [List.length_map] at k10
    have hn : findC l k = none := atC_neg k10
    have he : lastTime l k = 0 := by unfold lastTime; rw [hn]
    rw [he]
    refine awp_seq ?_
    refine awp_region ?_
    refine sq_plain rfl rfl rfl (w_assign rfl ev_ci) ?_
    refine sq_nil ?_
    refine awp_ret ?_
    exact retR rfl (rv_tmp' rfl (by first | rfl | (refine congrArg AV.bool ?_; simp_all; done)))
  · intro h10
    have k10 := of_decide_eq_false h10; try simp only [List.length_map] at k10
    obtain ⟨p, c, hp, hc, hf⟩ := atC_pos k10
    rw [hp]
    obtain ⟨v, hv, hlv⟩ := lastV_get (ho.2 c (List.mem_of_getElem? hc))
    have hcl := cell_len (Nat.le_trans (sizeL_get hc) hs)
    have hc1 := ho.2 c (List.mem_of_getElem? hc)
    have he : lastTime l k = v.Time := by unfold lastTime; rw [hf]; exact hlv
    rw [he]
    refine awp_skip ?_
    refine awp_seq ?_
    refine awp_region_any (by kernel_rfl) (by kernel_rfl) rfl ?_
    refine ch_plain rfl rfl (w_move rfl (ev_tmp rfl)) ?_
    refine ch_plain rfl rfl (w_move rfl (ev_tmp rfl)) ?_
    refine ch_plain rfl rfl (w_idxm rfl Try.underlying53 Try.sizeOf153 (ev_tmp rfl) (ev_tmp rfl) hc (by first | omega | ((try simp only [List.length_map, List.length_take, List.length_cons, List.length_nil, chunks_len, szR] at *); omega) | (have hc2 := hc; simp only [Bool.and_eq_true, Bool.or_eq_true, Bool.or_eq_false_iff, Bool.and_eq_false_iff, Bool.not_eq_true', Bool.not_eq_false', decide_eq_true_eq, decide_eq_false_iff_not, beq_iff_eq, bne_iff_ne, List.length_map, List.length_take] at hc2; omega))) ?_
    refine ch_plain rfl rfl (w_fldE rfl Try.underlying153 rfl Try.sizeOf151 (ev_tmp rfl) rfl) ?_
    refine ch_plain rfl rfl (w_loadE1 rfl (ev_tmp rfl) Try.isAgg151 rfl) ?_
    refine ch_plain rfl rfl (w_move rfl (ev_tmp rfl)) ?_
    refine ch_plain rfl rfl (w_move rfl (ev_tmp rfl)) ?_
    refine ch_plain rfl rfl (w_idxm rfl Try.underlying53 Try.sizeOf153 (ev_tmp rfl) (ev_tmp rfl) hc (by first | omega | ((try simp only [List.length_map, List.length_take, List.length_cons, List.length_nil, chunks_len, szR] at *); omega) | (have hc2 := hc; simp only [Bool.and_eq_true, Bool.or_eq_true, Bool.or_eq_false_iff, Bool.and_eq_false_iff, Bool.not_eq_true', Bool.not_eq_false', decide_eq_true_eq, decide_eq_false_iff_not, beq_iff_eq, bne_iff_ne, List.length_map, List.length_take] at hc2; omega))) ?_
    refine ch_plain rfl rfl (w_fldE rfl Try.underlying153 rfl Try.sizeOf151 (ev_tmp rfl) rfl) ?_
    refine ch_plain rfl rfl (w_loadE1 rfl (ev_tmp rfl) Try.isAgg151 rfl) ?_
    refine ch_plain rfl rfl (w_llen rfl Try.underlying151 (ev_tmp rfl)) ?_
    refine ch_plain rfl rfl (w_subi rfl (ev_tmp rfl) ev_ci (by first | omega | ((try simp only [List.length_map, List.length_take, List.length_cons, List.length_nil, chunks_len, szR] at *); omega) | (have hc2 := hc; simp only [Bool.and_eq_true, Bool.or_eq_true, Bool.or_eq_false_iff, Bool.and_eq_false_iff, Bool.not_eq_true', Bool.not_eq_false', decide_eq_true_eq, decide_eq_false_iff_not, beq_iff_eq, bne_iff_ne, List.length_map, List.length_take] at hc2; omega))) ?_
    refine ch_plain rfl rfl (w_idxm rfl Try.underlying151 Try.sizeOf155 (ev_tmp rfl) (ev_tmp rfl) hv (by first | omega | ((try simp only [List.length_map, List.length_take, List.length_cons, List.length_nil, chunks_len, szR] at *); omega) | (have hc2 := hc; simp only [Bool.and_eq_true, Bool.or_eq_true, Bool.or_eq_false_iff, Bool.and_eq_false_iff, Bool.not_eq_true', Bool.not_eq_false', decide_eq_true_eq, decide_eq_false_iff_not, beq_iff_eq, bne_iff_ne, List.length_map, List.length_take] at hc2; omega))) ?_
    refine ch_plain rfl rfl (w_fldE rfl Try.underlying155 rfl Try.sizeOf3 (ev_tmp rfl) rfl) ?_
    refine ch_plain rfl rfl (w_loadE1 rfl (ev_tmp rfl) Try.isAgg3 rfl) ?_
    refine ch_plain rfl rfl (w_assign rfl (ev_tmp rfl)) ?_
    refine ch_nil ?_
    refine awp_ret ?_
    exact retR rfl (rv_tmp' rfl (by first | rfl | (refine congrArg AV.bool ?_; simp_all; done)))
theorem equalFuncCell_spec (a b : List TCell) (pre : TCell → TCell → Prop) (hp : ∀ x y, pre x y) : FSpec Try.prog 171 [AV.list 2 (a.map TCell.cs), AV.list 2 (b.map TCell.cs), AV.fun2 Try.prog pre (fun a => AV.agg a.cs) (fun b => AV.agg b.cs) (fun a b => AV.bool (decide (a = b)))] (AV.bool (decide (a = b))) := by
  refine spec_of_awp Try.func171 rfl Try.ntmps171 rfl ?_
  refine awp_len (t := 0) rfl fun hl => ?_
  try simp only [List.length_map] at hl
  refine awp_seq ?_
  refine awp_region ?_
  refine sq_plain rfl rfl rfl (w_assign rfl ev_cb) ?_
  refine sq_nil ?_
  refine awp_seq ?_
  refine awp_seq ?_
  refine awp_region ?_
  refine sq_plain rfl rfl rfl (w_move rfl (ev_tmp rfl)) ?_
  refine sq_plain rfl rfl rfl (w_llen rfl Try.underlying53 (ev_tmp rfl)) ?_
  refine sq_plain rfl rfl rfl (w_move rfl (ev_tmp rfl)) ?_
  refine sq_plain rfl rfl rfl (w_llen rfl Try.underlying53 (ev_tmp rfl)) ?_
  refine sq_plain rfl rfl rfl (w_neq rfl (ev_tmp rfl) (ev_tmp rfl)) ?_
  refine sq_nil ?_
  refine awp_cond (ev_tmp rfl) ?_ ?_
  · intro h14
    have k14 := ne_of_bne h14; try simp only [List.length_map] at k14
    have hab : a ≠ b := by intro hc; subst hc; exact k14 rfl
    refine awp_seq ?_
    refine awp_region ?_
    refine sq_plain rfl rfl rfl (w_assign rfl ev_cb) ?_
    refine sq_nil ?_
    refine awp_ret ?_
    exact retR rfl (rv_tmp' rfl (by exact congrArg AV.bool (by simp [hab])))
  · intro h14
    have k14 := eq_of_bne_false h14; try simp only [List.length_map] at k14
    have heq : a.length = b.length := by omega
    refine awp_skip ?_
    refine awp_seq ?_
    refine awp_seq ?_
    refine awp_region ?_
    refine sq_plain rfl rfl rfl (w_move rfl (ev_tmp rfl)) ?_
    refine sq_plain rfl rfl rfl (w_llen rfl Try.underlying53 (ev_tmp rfl)) ?_
    refine sq_plain rfl rfl rfl (w_move rfl ev_ci) ?_
    refine sq_nil ?_
    refine awp_block ?_
    refine awp_loop_i [(1, _), (2, _), (15, _), (16, _)] _ (fun (i : Nat) => i ≤ a.length ∧ a.take i = b.take i) (fun (i : Nat) => []) (fun (i : Nat) => [(17, AV.int i)]) (fun (i : Nat) => a.length - i) (0) ?_ (le_env ⟨rfl, rfl, rfl, rfl, rfl, trivial⟩) ?_
    · exact ⟨Nat.zero_le _, rfl⟩
    intro i hinv
    refine awp_seq ?_
    refine awp_region ?_
    refine sq_plain rfl rfl rfl (w_lss rfl (ev_tmp rfl) (ev_tmp rfl)) ?_
    refine sq_nil ?_
    refine awp_seq ?_
    refine awp_cond (ev_tmp rfl) ?_ ?_
    · intro h18
      have k18 := of_decide_eq_true h18; try simp only [List.length_map] at k18
      have hlt : i < a.length := by omega
      obtain ⟨x, hx⟩ := get_some hlt
      obtain ⟨y, hy⟩ := get_some (show i < b.length by omega)
      refine awp_skip ?_
      refine awp_seq ?_
      refine awp_block ?_
      refine awp_seq ?_
      refine awp_region ?_
      refine sq_plain rfl rfl rfl (w_move rfl (ev_tmp rfl)) ?_
      refine sq_plain rfl rfl rfl (w_idxm rfl Try.underlying53 Try.sizeOf153 (ev_tmp rfl) (ev_tmp rfl) hx (by first | omega | ((try simp only [List.length_map, List.length_take, List.length_cons, List.length_nil, chunks_len, szR] at *); omega) | (have hc2 := hc; simp only [Bool.and_eq_true, Bool.or_eq_true, Bool.or_eq_false_iff, Bool.and_eq_false_iff, Bool.not_eq_true', Bool.not_eq_false', decide_eq_true_eq, decide_eq_false_iff_not, beq_iff_eq, bne_iff_ne, List.length_map, List.length_take] at hc2; omega))) ?_
      refine sq_plain rfl rfl rfl (w_loadE rfl (ev_tmp rfl) Try.isAgg153 Try.sizeOf153) ?_
      refine sq_alloc rfl rfl rfl rfl Try.zeroValue153 rfl ?_
      intro b8
      refine sq_plain rfl rfl rfl (w_assign rfl (ev_tmp rfl)) ?_
      refine sq_storeB0 0 rfl rfl rfl (ev_tmp rfl) (ev_tmp rfl) (as_agg _) rfl Try.sizeOf153 rfl ?_
      refine sq_nil ?_
      refine awp_seq ?_
      refine awp_region ?_
      refine sq_plain rfl rfl rfl (w_move rfl (ev_tmp rfl)) ?_
      refine sq_plain rfl rfl rfl (w_move rfl (ev_tmp rfl)) ?_
      refine sq_plain rfl rfl rfl (w_idxm rfl Try.underlying53 Try.sizeOf153 (ev_tmp rfl) (ev_tmp rfl) hy (by first | omega | ((try simp only [List.length_map, List.length_take, List.length_cons, List.length_nil, chunks_len, szR] at *); omega) | (have hc2 := hc; simp only [Bool.and_eq_true, Bool.or_eq_true, Bool.or_eq_false_iff, Bool.and_eq_false_iff, Bool.not_eq_true', Bool.not_eq_false', decide_eq_true_eq, decide_eq_false_iff_not, beq_iff_eq, bne_iff_ne, List.length_map, List.length_take] at hc2; omega))) ?_
      refine sq_plain rfl rfl rfl (w_loadE rfl (ev_tmp rfl) Try.isAgg153 Try.sizeOf153) ?_
      refine sq_alloc rfl rfl rfl rfl Try.zeroValue153 rfl ?_
      intro b9
      refine sq_storeB0 0 rfl rfl rfl (ev_tmp rfl) (ev_tmp rfl) (as_agg _) rfl Try.sizeOf153 rfl ?_
      refine sq_nil ?_
      refine awp_seq ?_
      refine awp_region ?_
      refine sq_plain rfl rfl rfl (w_move rfl (ev_tmp rfl)) ?_
      refine sq_plain rfl rfl rfl (w_loadA 1 rfl (ev_tmp rfl) rfl Try.isAgg153 Try.sizeOf153 rfl) ?_
      refine sq_plain rfl rfl rfl (w_loadA 0 rfl (ev_tmp rfl) rfl Try.isAgg153 Try.sizeOf153 rfl) ?_
      refine sq_plain rfl rfl rfl (w_callv2 rfl (ev_tmp rfl) x y (hp x y) (ev_tmp rfl) (ev_tmp rfl)) ?_
      refine sq_plain rfl rfl rfl (w_not rfl (ev_tmp rfl)) ?_
      refine sq_nil ?_
      refine awp_cond (ev_tmp rfl) ?_ ?_
      · intro h30
        have hab : a ≠ b := by intro hc; subst hc; rw [hx] at hy; injection hy with hy; subst hy; simp at h30
        refine awp_seq ?_
        refine awp_region ?_
        refine sq_plain rfl rfl rfl (w_assign rfl ev_cb) ?_
        refine sq_nil ?_
        refine awp_ret ?_
        exact retR rfl (rv_tmp' rfl (by exact congrArg AV.bool (by simp [hab])))
      · intro h30
        refine awp_skip ?_
        refine awp_region ?_
        refine sq_plain rfl rfl rfl (w_addi rfl (ev_tmp rfl) ev_ci (by first | omega | ((try simp only [List.length_map, List.length_take, List.length_cons, List.length_nil, chunks_len, szR] at *); omega) | (have hc2 := hc; simp only [Bool.and_eq_true, Bool.or_eq_true, Bool.or_eq_false_iff, Bool.and_eq_false_iff, Bool.not_eq_true', Bool.not_eq_false', decide_eq_true_eq, decide_eq_false_iff_not, beq_iff_eq, bne_iff_ne, List.length_map, List.length_take] at hc2; omega))) ?_
        refine sq_plain rfl rfl rfl (w_move rfl (ev_tmp rfl)) ?_
        refine sq_nil ?_
        refine round_end i (i + 1) ?_ ?_ (le_drop 2 ⟨rfl, rfl, rfl, rfl, rfl, trivial⟩)
        · exact ⟨by omega, take_eq_succ hinv.2 hx (by rw [hy]; congr 1; simp at h30; exact h30.symm)⟩
        · omega
    · intro h18
      have k18 := of_decide_eq_false h18; try simp only [List.length_map] at k18
      have hge : a.length ≤ i := by omega
      have hab : a = b := take_eq_of heq hinv.2 hge
      refine awp_exit ?_
      refine awp_seq ?_
      refine awp_region ?_
      refine sq_plain rfl rfl rfl (w_assign rfl ev_cb) ?_
      refine sq_nil ?_
      refine awp_ret ?_
      exact retR rfl (rv_tmp' rfl (by exact congrArg AV.bool (by simp [hab])))
theorem sameCells1_spec (x y : TCell) : FSpec Try.prog 172 [AV.agg x.cs, AV.agg y.cs] (AV.bool (decide (x = y))) := by
  refine spec_of_awp Try.func172 rfl Try.ntmps172 rfl ?_
  refine awp_seq ?_
  refine awp_region ?_
  refine sq_box rfl rfl rfl rfl (ev_tmp rfl) ?_
  intro b2
  refine sq_box rfl rfl rfl rfl (ev_tmp rfl) ?_
  intro b3
  refine sq_plain rfl rfl rfl (w_assign rfl ev_cb) ?_
  refine sq_nil ?_
  refine awp_seq ?_
  refine awp_region ?_
  refine sq_plain rfl rfl rfl (w_fldBn 0 rfl Try.underlying153 rfl Try.sizeOf9 (ev_tmp rfl) rfl) ?_
  refine sq_plain rfl rfl rfl (w_loadB1 1 rfl (ev_tmp rfl) rfl Try.isAgg9 rfl) ?_
  refine sq_plain rfl rfl rfl (w_fldBn 0 rfl Try.underlying153 rfl Try.sizeOf9 (ev_tmp rfl) rfl) ?_
  refine sq_plain rfl rfl rfl (w_loadB1 0 rfl (ev_tmp rfl) rfl Try.isAgg9 rfl) ?_
  refine sq_plain rfl rfl rfl (w_seql rfl (ev_tmp rfl) (ev_tmp rfl)) ?_
  refine sq_plain rfl rfl rfl (w_move rfl (ev_tmp rfl)) ?_
  refine sq_grd rfl rfl (guard_t rfl rfl rfl) (fun hc => w_fldBn 1 rfl Try.underlying153 rfl Try.sizeOf151 (ev_tmp rfl) rfl) ?_
  refine sq_grd rfl rfl (guard_t rfl rfl rfl) (fun hc => w_loadB1 1 rfl (ev_whn rfl hc) rfl Try.isAgg151 rfl) ?_
  refine sq_grd rfl rfl (guard_t rfl rfl rfl) (fun hc => w_fldBn 1 rfl Try.underlying153 rfl Try.sizeOf151 (ev_tmp rfl) rfl) ?_
  refine sq_grd rfl rfl (guard_t rfl rfl rfl) (fun hc => w_loadB1 0 rfl (ev_whn rfl hc) rfl Try.isAgg151 rfl) ?_
  refine sq_grd rfl rfl (guard_t rfl rfl rfl) (fun hc => w_call rfl Try.call173 rfl (equalVer_spec _ _) (evl_cons (ev_whn rfl hc) (evl_cons (ev_whn rfl hc) evl_nil))) ?_
  refine sq_plain rfl rfl rfl (w_and rfl (ev_tmp rfl) (evif_w rfl)) ?_
  refine sq_plain rfl rfl rfl (w_assign rfl (ev_tmp rfl)) ?_
  refine sq_nil ?_
  refine awp_ret ?_
  exact retR rfl (rv_tmp' rfl (by exact congrArg AV.bool (by cases x; cases y; simp only [TCell.mk.injEq]; rw [Bool.eq_iff_iff]; simp)))
theorem sameCells_spec (a b : List TCell) : FSpec Try.prog 70 [AV.list 2 (a.map TCell.cs), AV.list 2 (b.map TCell.cs)] (AV.bool (decide (a = b))) := by
  refine spec_of_awp Try.func70 rfl Try.ntmps70 rfl ?_
  refine awp_seq ?_
  refine awp_region ?_
  refine sq_plain rfl rfl rfl (w_assign rfl ev_cb) ?_
  refine sq_nil ?_
  refine awp_seq ?_
  refine awp_region ?_
  refine sq_plain rfl rfl rfl (w_move rfl (ev_tmp rfl)) ?_
  refine sq_plain rfl rfl rfl (w_move rfl (ev_tmp rfl)) ?_
  refine sq_plain rfl rfl rfl (w_call rfl Try.call171 rfl (equalFuncCell_spec _ _ (fun _ _ => True) (fun _ _ => trivial)) (evl_cons (ev_tmp rfl) (evl_cons (ev_tmp rfl) (evl_cons (ev_fun2 Try.call172 (fun x y (_ : True) => sameCells1_spec x y)) evl_nil)))) ?_
  refine sq_plain rfl rfl rfl (w_assign rfl (ev_tmp rfl)) ?_
  refine sq_nil ?_
  refine awp_ret ?_
  exact retR rfl (rv_tmp' rfl (by first | rfl | (refine congrArg AV.bool ?_; simp_all; done)))
theorem sameCellsS_spec (a b : List TCell) (hs : sizeL TCell.size a ≤ 4194304) : FSpec Try.prog 48 [AV.list 2 (a.map TCell.cs), AV.list 2 (b.map TCell.cs)] (AV.bool (decide (a = b))) := by
  refine spec_of_awp Try.func48 rfl Try.ntmps48 rfl ?_
  refine awp_len (t := 0) rfl fun hl => ?_
  try simp only [List.length_map] at hl
  refine awp_seq ?_
  refine awp_region ?_
  refine sq_plain rfl rfl rfl (w_assign rfl ev_cb) ?_
  refine sq_nil ?_
  refine awp_seq ?_
  refine awp_seq ?_
  refine awp_region ?_
  refine sq_plain rfl rfl rfl (w_move rfl (ev_tmp rfl)) ?_
  refine sq_plain rfl rfl rfl (w_llen rfl Try.underlying53 (ev_tmp rfl)) ?_
  refine sq_plain rfl rfl rfl (w_move rfl (ev_tmp rfl)) ?_
  refine sq_plain rfl rfl rfl (w_llen rfl Try.underlying53 (ev_tmp rfl)) ?_
  refine sq_plain rfl rfl rfl (w_neq rfl (ev_tmp rfl) (ev_tmp rfl)) ?_
  refine sq_nil ?_
  refine awp_cond (ev_tmp rfl) ?_ ?_
  · intro h13
    have k13 := ne_of_bne h13; try simp only [List.length_map] at k13
    have hab : a ≠ b := by intro hc; subst hc; exact k13 rfl
    refine awp_seq ?_
    refine awp_region ?_
    refine sq_plain rfl rfl rfl (w_assign rfl ev_cb) ?_
    refine sq_nil ?_
    refine awp_ret ?_
    exact retR rfl (rv_tmp' rfl (by exact congrArg AV.bool (by simp [hab])))
  · intro h13
    have k13 := eq_of_bne_false h13; try simp only [List.length_map] at k13
    have heq : a.length = b.length := by omega
    refine awp_skip ?_
    refine awp_seq ?_
    refine awp_seq ?_
    refine awp_region ?_
    refine sq_plain rfl rfl rfl (w_move rfl (ev_tmp rfl)) ?_
    refine sq_plain rfl rfl rfl (w_llen rfl Try.underlying53 (ev_tmp rfl)) ?_
    refine sq_plain rfl rfl rfl (w_move rfl ev_ci) ?_
    refine sq_nil ?_
    refine awp_block ?_
    refine awp_loop_i [(1, _), (14, _), (15, _)] _ (fun (i : Nat) => i ≤ a.length ∧ a.take i = b.take i) (fun (i : Nat) => []) (fun (i : Nat) => [(16, AV.int i)]) (fun (i : Nat) => a.length - i) (0) ?_ (le_env ⟨rfl, rfl, rfl, rfl, trivial⟩) ?_
    · exact ⟨Nat.zero_le _, rfl⟩
    intro i hinv
    refine awp_seq ?_
    refine awp_region ?_
    refine sq_plain rfl rfl rfl (w_lss rfl (ev_tmp rfl) (ev_tmp rfl)) ?_
    refine sq_nil ?_
    refine awp_seq ?_
    refine awp_cond (ev_tmp rfl) ?_ ?_
    · intro h17
      have k17 := of_decide_eq_true h17; try simp only [List.length_map] at k17
      have hlt : i < a.length := by omega
      obtain ⟨x, hx⟩ := get_some hlt
      obtain ⟨y, hy⟩ := get_some (show i < b.length by omega)
      refine awp_skip ?_
      refine awp_seq ?_
      refine awp_block ?_
      refine awp_seq ?_
      refine awp_region ?_
      refine sq_plain rfl rfl rfl (w_move rfl (ev_tmp rfl)) ?_
      refine sq_plain rfl rfl rfl (w_idxm rfl Try.underlying53 Try.sizeOf153 (ev_tmp rfl) (ev_tmp rfl) hx (by first | omega | ((try simp only [List.length_map, List.length_take, List.length_cons, List.length_nil, chunks_len, szR] at *); omega) | (have hc2 := hc; simp only [Bool.and_eq_true, Bool.or_eq_true, Bool.or_eq_false_iff, Bool.and_eq_false_iff, Bool.not_eq_true', Bool.not_eq_false', decide_eq_true_eq, decide_eq_false_iff_not, beq_iff_eq, bne_iff_ne, List.length_map, List.length_take] at hc2; omega))) ?_
      refine sq_plain rfl rfl rfl (w_loadE rfl (ev_tmp rfl) Try.isAgg153 Try.sizeOf153) ?_
      refine sq_alloc rfl rfl rfl rfl Try.zeroValue153 rfl ?_
      intro b6
      refine sq_plain rfl rfl rfl (w_assign rfl (ev_tmp rfl)) ?_
      refine sq_storeB0 0 rfl rfl rfl (ev_tmp rfl) (ev_tmp rfl) (as_agg _) rfl Try.sizeOf153 rfl ?_
      refine sq_nil ?_
      refine awp_seq ?_
      refine awp_region ?_
      refine sq_plain rfl rfl rfl (w_move rfl (ev_tmp rfl)) ?_
      refine sq_plain rfl rfl rfl (w_move rfl (ev_tmp rfl)) ?_
      refine sq_plain rfl rfl rfl (w_idxm rfl Try.underlying53 Try.sizeOf153 (ev_tmp rfl) (ev_tmp rfl) hy (by first | omega | ((try simp only [List.length_map, List.length_take, List.length_cons, List.length_nil, chunks_len, szR] at *); omega) | (have hc2 := hc; simp only [Bool.and_eq_true, Bool.or_eq_true, Bool.or_eq_false_iff, Bool.and_eq_false_iff, Bool.not_eq_true', Bool.not_eq_false', decide_eq_true_eq, decide_eq_false_iff_not, beq_iff_eq, bne_iff_ne, List.length_map, List.length_take] at hc2; omega))) ?_
      refine sq_plain rfl rfl rfl (w_loadE rfl (ev_tmp rfl) Try.isAgg153 Try.sizeOf153) ?_
      refine sq_alloc rfl rfl rfl rfl Try.zeroValue153 rfl ?_
      intro b7
      refine sq_storeB0 0 rfl rfl rfl (ev_tmp rfl) (ev_tmp rfl) (as_agg _) rfl Try.sizeOf153 rfl ?_
      refine sq_nil ?_
      refine awp_seq ?_
      refine awp_seq ?_
      refine awp_region ?_
      refine sq_plain rfl rfl rfl (w_fldBn 0 rfl Try.underlying153 rfl Try.sizeOf9 (ev_tmp rfl) rfl) ?_
      refine sq_plain rfl rfl rfl (w_loadB1 1 rfl (ev_tmp rfl) rfl Try.isAgg9 rfl) ?_
      refine sq_plain rfl rfl rfl (w_fldBn 0 rfl Try.underlying153 rfl Try.sizeOf9 (ev_tmp rfl) rfl) ?_
      refine sq_plain rfl rfl rfl (w_loadB1 0 rfl (ev_tmp rfl) rfl Try.isAgg9 rfl) ?_
      refine sq_plain rfl rfl rfl (w_sneq rfl (ev_tmp rfl) (ev_tmp rfl)) ?_
      refine sq_plain rfl rfl rfl (w_move rfl (ev_tmp rfl)) ?_
      refine sq_grd rfl rfl (guard_f rfl rfl rfl) (fun hc => w_fldBn 1 rfl Try.underlying153 rfl Try.sizeOf151 (ev_tmp rfl) rfl) ?_
      refine sq_grd rfl rfl (guard_f rfl rfl rfl) (fun hc => w_loadB1 1 rfl (ev_whn rfl hc) rfl Try.isAgg151 rfl) ?_
      refine sq_grd rfl rfl (guard_f rfl rfl rfl) (fun hc => w_llen rfl Try.underlying151 (ev_whn rfl hc)) ?_
      refine sq_grd rfl rfl (guard_f rfl rfl rfl) (fun hc => w_fldBn 1 rfl Try.underlying153 rfl Try.sizeOf151 (ev_tmp rfl) rfl) ?_
      refine sq_grd rfl rfl (guard_f rfl rfl rfl) (fun hc => w_loadB1 0 rfl (ev_whn rfl hc) rfl Try.isAgg151 rfl) ?_
      refine sq_grd rfl rfl (guard_f rfl rfl rfl) (fun hc => w_llen rfl Try.underlying151 (ev_whn rfl hc)) ?_
      refine sq_grd rfl rfl (guard_f rfl rfl rfl) (fun hc => w_neq rfl (ev_whn rfl hc) (ev_whn rfl hc)) ?_
      refine sq_plain rfl rfl rfl (w_or rfl (ev_tmp rfl) (evif_w rfl)) ?_
      refine sq_nil ?_
      refine awp_cond (ev_tmp rfl) ?_ ?_
      · intro h38
        have hab : a ≠ b := by intro hc; subst hc; rw [hx] at hy; injection hy with hy; subst hy; simp at h38
        refine awp_seq ?_
        refine awp_region ?_
        refine sq_plain rfl rfl rfl (w_assign rfl ev_cb) ?_
        refine sq_nil ?_
        refine awp_ret ?_
        exact retR rfl (rv_tmp' rfl (by exact congrArg AV.bool (by simp [hab])))
      · intro h38
        have hke : x.Key = y.Key ∧ x.Vers.length = y.Vers.length := by simp at h38; exact ⟨h38.1, by omega⟩
        refine awp_skip ?_
        refine awp_seq ?_
        refine awp_region ?_
        refine sq_plain rfl rfl rfl (w_fldBn 1 rfl Try.underlying153 rfl Try.sizeOf151 (ev_tmp rfl) rfl) ?_
        refine sq_plain rfl rfl rfl (w_loadB1 1 rfl (ev_tmp rfl) rfl Try.isAgg151 rfl) ?_
        refine sq_plain rfl rfl rfl (w_llen rfl Try.underlying151 (ev_tmp rfl)) ?_
        refine sq_plain rfl rfl rfl (w_move rfl ev_ci) ?_
        refine sq_nil ?_
        refine awp_block ?_
        have hinvo := hinv
        have hxl := (cell_len (Nat.le_trans (sizeL_get hx) hs)).2.1
        refine awp_loop_i [(1, _), (5, _), (6, _), (7, _), (14, _), (15, _), (16, _), (17, _), (18, _), (19, _), (20, _), (21, _), (22, _), (23, _), (24, _), (25, _), (26, _), (27, _), (28, _), (29, _), (30, _), (38, _), (39, _), (40, _), (41, _)] _ (fun (q : Nat) => q ≤ x.Vers.length ∧ x.Vers.take q = y.Vers.take q) (fun (q : Nat) => []) (fun (q : Nat) => [(42, AV.int q)]) (fun (q : Nat) => x.Vers.length - q) (0) ?_ (le_env ⟨rfl, rfl, rfl, rfl, rfl, rfl, rfl, rfl, rfl, rfl, rfl, rfl, rfl, rfl, rfl, rfl, rfl, rfl, rfl, rfl, rfl, rfl, rfl, rfl, rfl, rfl, trivial⟩) ?_
        · exact ⟨Nat.zero_le _, rfl⟩
        intro q hinv
        refine awp_seq ?_
        refine awp_region ?_
        refine sq_plain rfl rfl rfl (w_lss rfl (ev_tmp rfl) (ev_tmp rfl)) ?_
        refine sq_nil ?_
        refine awp_seq ?_
        refine awp_cond (ev_tmp rfl) ?_ ?_
        · intro h43
          have k43 := of_decide_eq_true h43; try simp only [List.length_map] at k43
          have hltq : q < x.Vers.length := by omega
          obtain ⟨u, hu⟩ := get_some hltq
          obtain ⟨w, hw⟩ := get_some (show q < y.Vers.length by omega)
          refine awp_skip ?_
          refine awp_seq ?_
          refine awp_block ?_
          refine awp_seq ?_
          refine awp_region ?_
          refine sq_plain rfl rfl rfl (w_move rfl (ev_tmp rfl)) ?_
          refine sq_plain rfl rfl rfl (w_assign rfl (ev_tmp rfl)) ?_
          refine sq_nil ?_
          refine awp_seq ?_
          refine awp_region_any (by kernel_rfl) (by kernel_rfl) rfl ?_
          refine ch_plain rfl rfl (w_fldBn 1 rfl Try.underlying153 rfl Try.sizeOf151 (ev_tmp rfl) rfl) ?_
          refine ch_plain rfl rfl (w_loadB1 1 rfl (ev_tmp rfl) rfl Try.isAgg151 rfl) ?_
          refine ch_plain rfl rfl (w_move rfl (ev_tmp rfl)) ?_
          refine ch_plain rfl rfl (w_idxm rfl Try.underlying151 Try.sizeOf155 (ev_tmp rfl) (ev_tmp rfl) hu (by first | omega | ((try simp only [List.length_map, List.length_take, List.length_cons, List.length_nil, chunks_len, szR] at *); omega) | (have hc2 := hc; simp only [Bool.and_eq_true, Bool.or_eq_true, Bool.or_eq_false_iff, Bool.and_eq_false_iff, Bool.not_eq_true', Bool.not_eq_false', decide_eq_true_eq, decide_eq_false_iff_not, beq_iff_eq, bne_iff_ne, List.length_map, List.length_take] at hc2; omega))) ?_
          refine ch_plain rfl rfl (w_loadE rfl (ev_tmp rfl) Try.isAgg155 Try.sizeOf155) ?_
          refine ch_plain rfl rfl (w_fldBn 1 rfl Try.underlying153 rfl Try.sizeOf151 (ev_tmp rfl) rfl) ?_
          refine ch_plain rfl rfl (w_loadB1 0 rfl (ev_tmp rfl) rfl Try.isAgg151 rfl) ?_
          refine ch_plain rfl rfl (w_move rfl (ev_tmp rfl)) ?_
          refine ch_plain rfl rfl (w_idxm rfl Try.underlying151 Try.sizeOf155 (ev_tmp rfl) (ev_tmp rfl) hw (by first | omega | ((try simp only [List.length_map, List.length_take, List.length_cons, List.length_nil, chunks_len, szR] at *); omega) | (have hc2 := hc; simp only [Bool.and_eq_true, Bool.or_eq_true, Bool.or_eq_false_iff, Bool.and_eq_false_iff, Bool.not_eq_true', Bool.not_eq_false', decide_eq_true_eq, decide_eq_false_iff_not, beq_iff_eq, bne_iff_ne, List.length_map, List.length_take] at hc2; omega))) ?_
          refine ch_plain rfl rfl (w_loadE rfl (ev_tmp rfl) Try.isAgg155 Try.sizeOf155) ?_
          refine ch_plain rfl rfl (w_aneq rfl Try.underlying155 (by kernel_rfl) (by kernel_rfl) (ev_tmp rfl) (ev_tmp rfl) (eqf_cons (by kernel_rfl) Try.isAgg3 rfl rfl (eqf_int Try.underlying3) (eqf_cons (by kernel_rfl) Try.isAgg9 rfl rfl (eqf_str Try.underlying9) (eqf_cons (by kernel_rfl) Try.isAgg4 rfl rfl (eqf_bool Try.underlying4) eqf_nil)))) ?_
          refine ch_nil ?_
          refine awp_cond (ev_tmp rfl) ?_ ?_
          · intro h55
            have hab : a ≠ b := by intro hc; subst hc; rw [hx] at hy; injection hy with hy; subst hy; rw [hu] at hw; injection hw with hw; subst hw; simp at h55
            refine awp_seq ?_
            refine awp_region ?_
            refine sq_plain rfl rfl rfl (w_assign rfl ev_cb) ?_
            refine sq_nil ?_
            refine awp_ret ?_
            exact retR rfl (rv_tmp' rfl (by exact congrArg AV.bool (by simp [hab])))
          · intro h55
            refine awp_skip ?_
            refine awp_region ?_
            refine sq_plain rfl rfl rfl (w_addi rfl (ev_tmp rfl) ev_ci (by first | omega | ((try simp only [List.length_map, List.length_take, List.length_cons, List.length_nil, chunks_len, szR] at *); omega) | (have hc2 := hc; simp only [Bool.and_eq_true, Bool.or_eq_true, Bool.or_eq_false_iff, Bool.and_eq_false_iff, Bool.not_eq_true', Bool.not_eq_false', decide_eq_true_eq, decide_eq_false_iff_not, beq_iff_eq, bne_iff_ne, List.length_map, List.length_take] at hc2; omega))) ?_
            refine sq_plain rfl rfl rfl (w_move rfl (ev_tmp rfl)) ?_
            refine sq_nil ?_
            refine round_end q (q + 1) ?_ ?_ (le_env ⟨rfl, rfl, rfl, rfl, rfl, rfl, rfl, rfl, rfl, rfl, rfl, rfl, rfl, rfl, rfl, rfl, rfl, rfl, rfl, rfl, rfl, rfl, rfl, rfl, rfl, rfl, trivial⟩)
            · exact ⟨by omega, take_eq_succ hinv.2 hu (by rw [hw]; congr 1; first | (simp_all; done) | (cases u; cases w; simp_all))⟩
            · omega
        · intro h43
          have k43 := of_decide_eq_false h43; try simp only [List.length_map] at k43
          have hgq : x.Vers.length ≤ q := by omega
          have hxv := take_eq_of hke.2 hinv.2 hgq
          have hxy : x = y := by cases x; cases y; simp only [TCell.mk.injEq]; exact ⟨hke.1, hxv⟩
          refine awp_exit ?_
          refine awp_region ?_
          refine sq_plain rfl rfl rfl (w_addi rfl (ev_tmp rfl) ev_ci (by first | omega | ((try simp only [List.length_map, List.length_take, List.length_cons, List.length_nil, chunks_len, szR] at *); omega) | (have hc2 := hc; simp only [Bool.and_eq_true, Bool.or_eq_true, Bool.or_eq_false_iff, Bool.and_eq_false_iff, Bool.not_eq_true', Bool.not_eq_false', decide_eq_true_eq, decide_eq_false_iff_not, beq_iff_eq, bne_iff_ne, List.length_map, List.length_take] at hc2; omega))) ?_
          refine sq_plain rfl rfl rfl (w_move rfl (ev_tmp rfl)) ?_
          refine sq_nil ?_
          refine round_end i (i + 1) ?_ ?_ (le_drop 2 ⟨rfl, rfl, rfl, rfl, trivial⟩)
          · exact ⟨by omega, take_eq_succ hinvo.2 hx (by rw [hy, hxy])⟩
          · omega
    · intro h17
      have k17 := of_decide_eq_false h17; try simp only [List.length_map] at k17
      have hge : a.length ≤ i := by omega
      have hab : a = b := take_eq_of heq hinv.2 hge
      refine awp_exit ?_
      refine awp_seq ?_
      refine awp_region ?_
      refine sq_plain rfl rfl rfl (w_assign rfl ev_cb) ?_
      refine sq_nil ?_
      refine awp_ret ?_
      exact retR rfl (rv_tmp' rfl (by exact congrArg AV.bool (by simp [hab])))
end Go.Proofs.Yteliahajeokciaa

set_option linter.unusedVariables false
set_option linter.unusedSimpArgs false
set_option maxRecDepth 100000
namespace Go.AV
section
variable {T X : Type} {cs : T → List AV} {ocs : T → X → List AV} {ow : T → X → List Own}
theorem nrows_take {l : List T} {xs : List X} {i : Nat} : (nrows ocs l xs).take i = nrows ocs (l.take i) (xs.take i) := by unfold nrows; rw [List.take_zipWith]
theorem nrows_drop {l : List T} {xs : List X} {i : Nat} : (nrows ocs l xs).drop i = nrows ocs (l.drop i) (xs.drop i) := by unfold nrows; rw [List.drop_zipWith]
theorem nrows_ins {l : List T} {xs : List X} {i : Nat} {p : T} {x : X} (hi : i ≤ l.length) (h : xs.length = l.length) : (nrows ocs l xs).take i ++ ocs p x :: (nrows ocs l xs).drop i = nrows ocs (l.take i ++ p :: l.drop i) (xs.take i ++ x :: xs.drop i) := by
  unfold nrows
  rw [List.zipWith_append (by rw [List.length_take, List.length_take]; omega), List.zipWith_cons_cons, List.take_zipWith, List.drop_zipWith]
theorem nin_ins {l : List T} {xs : List X} {i : Nat} {p : T} {x : X} (hi : i ≤ l.length) (h : xs.length = l.length) : (ow p x ++ nin ow l xs).Perm (nin ow (l.take i ++ p :: l.drop i) (xs.take i ++ x :: xs.drop i)) := by
  have e : nin ow l xs = nin ow (l.take i) (xs.take i) ++ nin ow (l.drop i) (xs.drop i) := by
    unfold nin
    rw [← List.flatten_append, ← List.zipWith_append (by rw [List.length_take, List.length_take]; omega), List.take_append_drop, List.take_append_drop]
  have e2 : nin ow (l.take i ++ p :: l.drop i) (xs.take i ++ x :: xs.drop i) = nin ow (l.take i) (xs.take i) ++ (ow p x ++ nin ow (l.drop i) (xs.drop i)) := by
    unfold nin
    rw [List.zipWith_append (by rw [List.length_take, List.length_take]; omega), List.zipWith_cons_cons, List.flatten_append, List.flatten_cons]
  rw [e, e2, ← List.append_assoc, ← List.append_assoc]
  exact List.Perm.append_right _ List.perm_append_comm
theorem insx_len {X : Type} {xs : List X} {i : Nat} {x : X} (hi : i ≤ xs.length) : (xs.take i ++ x :: xs.drop i).length = xs.length + 1 := by
  rw [List.length_append, List.length_cons, List.length_take, List.length_drop]; omega
end
end Go.AV
namespace Go.Proofs.Yteliahajeokciaa
open Go Go.AV Go.M
attribute [local irreducible] OpW OpA OpS AWP FSpec ESpec GSpec OpE RetOk RetOkG RvDen Le Ev GuardIs SrcIs
def TCell.ow (c : TCell) (x : Value) : List Own := [.arr x 155 3 (c.Vers.map TVer.cs)]
theorem TCell.lcM {own : List Own} (c : TCell) (x : Value) (h : ∀ o ∈ TCell.ow c x, o ∈ own) : LendC own (TCell.ocs c x) c.cs := lc_cons lt_refl (lc_cons (lt_arr (h _ (List.mem_of_getElem? (i := 0) rfl)) le_refl_e) lc_nil)
theorem TCell.flatC (c : TCell) (x : Value) : ∀ e ∈ TCell.ocs c x, Flat e := flatC_cons (flat_str _) (flatC_cons (flat_is _) flatC_nil)
theorem TCell.flatW (c : TCell) (x : Value) : ∀ q ∈ TCell.ow c x, FlatO q := flatO_cons (flatO_arr (flate_map fun s => flatC_cons (flat_ik _ _) (flatC_cons (flat_str _) (flatC_cons (flat_bool _) flatC_nil)))) flatO_nil
theorem ncopy_step {l : List TCell} {xs : List Value} {p : TCell} {x : Value} {i : Nat} (hp : l[i]? = some p) (h : xs.length = i) : nrows TCell.ocs (l.take i) xs ++ TCell.ocs p x :: (l.drop (i + 1)).map TCell.cs = nrows TCell.ocs (l.take (i + 1)) (xs ++ [x]) ++ (l.drop (i + 1)).map TCell.cs := by
  rw [← nrows_step hp h, List.append_assoc]; rfl
theorem insertRows_own (v vv : Value) (l : List (List AV)) (x : List AV) (hx2 : x.length = 2) (hl2 : ∀ r ∈ l, r.length = 2) (i : Nat) (hi : i ≤ l.length) (hl : l.length ≤ 4194304) : GSpec Try.prog 241 [AV.is v, AV.int i, AV.is vv] [.arr v 153 2 (l.map id), .arr vv 153 2 [id x]] (fun _ : Value => True) (fun v => [.arr v 153 2 ((l.take i ++ x :: l.drop i).map id)]) (fun v => AV.is v) := by
  have hn : (l.map id).length = l.length := List.length_map _
  have h1 : ([id x] : List (List AV)).length = 1 := rfl
  have e28 : ((l.map id).length : Int) + (([id x] : List (List AV)).length : Int) = ((l.length + 1 : Nat) : Int) := by rw [hn, h1]; rfl
  have e49 : (i : Int) + (([id x] : List (List AV)).length : Int) = ((i + 1 : Nat) : Int) := by rw [h1]; rfl
  have e39 : ((l.length + 1 : Nat) : Int) - (i : Int) = ((l.length + 1 - i : Nat) : Int) := by omega
  refine gspec_of_awp Try.func241 rfl Try.ntmps241 rfl ?_
  refine awp_form 0 rfl ?_ ?_
  · intro hv hes; subst hv
    have hl0 : l = [] := by cases l with | nil => rfl | cons y l => (simp at hes)
    subst hl0
    have hi0 : i = 0 := by simpa using hi
    subst hi0
    refine awp_form 1 rfl (fun _ h => by cases h) ?_
    intro gv cv hvv _ _
    subst hvv
    refine awp_seq ?_
    refine awp_region ?_
    refine sq_plain rfl rfl rfl (w_assign rfl ev_cnils) ?_
    refine sq_nil ?_
    refine awp_seq ?_
    refine awp_region ?_
    refine sq_plain rfl rfl rfl (w_move rfl (ev_tmp rfl)) ?_
    refine sq_plain rfl rfl rfl (w_move rfl (ev_tmp rfl)) ?_
    refine sq_plain rfl rfl rfl (w_alo 0 rfl Try.underlying53 Try.sizeOf153 (ev_tmp rfl) rfl (ev_tmp rfl) (by first | omega | ((try simp only [List.length_map, List.length_take, List.length_cons, List.length_nil, chunks_len, szR] at *); omega) | (have hc2 := hc; simp only [Bool.and_eq_true, Bool.or_eq_true, Bool.or_eq_false_iff, Bool.and_eq_false_iff, Bool.not_eq_true', Bool.not_eq_false', decide_eq_true_eq, decide_eq_false_iff_not, beq_iff_eq, bne_iff_ne, List.length_map, List.length_take] at hc2; omega)) (by first | omega | ((try simp only [List.length_map, List.length_take, List.length_cons, List.length_nil, chunks_len, szR] at *); omega) | (have hc2 := hc; simp only [Bool.and_eq_true, Bool.or_eq_true, Bool.or_eq_false_iff, Bool.and_eq_false_iff, Bool.not_eq_true', Bool.not_eq_false', decide_eq_true_eq, decide_eq_false_iff_not, beq_iff_eq, bne_iff_ne, List.length_map, List.length_take] at hc2; omega))) ?_
    refine sq_nil ?_
    refine awp_seq ?_
    refine awp_region ?_
    refine sq_plain rfl rfl rfl (w_move rfl (ev_tmp rfl)) ?_
    refine sq_plain rfl rfl rfl (w_vlen rfl Try.underlying53 (ev_tmp rfl)) ?_
    refine sq_plain rfl rfl rfl (w_assign rfl (ev_tmp rfl)) ?_
    refine sq_nil ?_
    refine awp_seq ?_
    refine awp_seq ?_
    refine awp_region ?_
    refine sq_plain rfl rfl rfl (w_move rfl (ev_tmp rfl)) ?_
    refine sq_plain rfl rfl rfl (w_eql rfl (ev_tmp rfl) ev_ci) ?_
    refine sq_nil ?_
    refine awp_cond (ev_tmp rfl) ?_ ?_
    · intro h16
      have k16 := eq_of_beqt h16; try simp only [List.length_map] at k16
      rw [h1] at k16; omega
    · intro h16
      have k16 := ne_of_beqf h16; try simp only [List.length_map] at k16
      refine awp_skip ?_
      refine awp_seq ?_
      refine awp_region ?_
      refine sq_plain rfl rfl rfl (w_move rfl (ev_tmp rfl)) ?_
      refine sq_plain rfl rfl rfl (w_alen 0 rfl Try.underlying53 (ev_tmp rfl) rfl) ?_
      refine sq_plain rfl rfl rfl (w_assign rfl (ev_tmp rfl)) ?_
      refine sq_nil ?_
      refine awp_seq ?_
      refine awp_seq ?_
      refine awp_region ?_
      refine sq_plain rfl rfl rfl (w_move rfl (ev_tmp rfl)) ?_
      refine sq_plain rfl rfl rfl (w_move rfl (ev_tmp rfl)) ?_
      refine sq_plain rfl rfl rfl (w_eql rfl (ev_tmp rfl) (ev_tmp rfl)) ?_
      refine sq_nil ?_
      refine awp_cond (ev_tmp rfl) ?_ ?_
      · intro h22
        have k22 := eq_of_beqt h22; try simp only [List.length_map] at k22
        refine awp_seq ?_
        refine awp_region ?_
        refine sq_plain rfl rfl rfl (w_move rfl (ev_tmp rfl)) ?_
        refine sq_plain rfl rfl rfl (w_move rfl (ev_tmp rfl)) ?_
        refine sq_appendS (by' := 40) 0 rfl rfl rfl rfl Try.underlying53 Try.type153 rfl rfl rfl rfl rfl rfl (ev_tmp rfl) (src_own0 1 rfl (ev_tmp rfl)) (by simp) rfl (by simp only [List.length_map, List.length_cons, List.length_nil]; omega) ?_
        intro v25
        refine sq_plain rfl rfl rfl (w_assign rfl (ev_tmp rfl)) ?_
        refine sq_nil ?_
        refine awp_ret ?_
        exact retG [0] v25 (trivial) rfl (by exact congrArg (fun z => [Own.arr _ 153 2 z]) (by first | exact ins_grow hi (by simp) | exact ins_shift (by omega) | (have hil : i = l.length := (by omega); subst hil; simp; done) | (simp; done))) (resR rfl (rv_tmp' rfl (by first | rfl | (rw [hn]))))
      · intro h22
        have k22 := ne_of_beqf h22; try simp only [List.length_map] at k22
        exact absurd rfl k22
  · intro g cap hv hlc hcm; subst hv
    refine awp_form 1 rfl (fun _ h => by cases h) ?_
    intro gv cv hvv _ _
    subst hvv
    refine awp_seq ?_
    refine awp_region ?_
    refine sq_plain rfl rfl rfl (w_assign rfl ev_cnils) ?_
    refine sq_nil ?_
    refine awp_seq ?_
    refine awp_region ?_
    refine sq_plain rfl rfl rfl (w_move rfl (ev_tmp rfl)) ?_
    refine sq_plain rfl rfl rfl (w_move rfl (ev_tmp rfl)) ?_
    refine sq_plain rfl rfl rfl (w_vlo rfl Try.underlying53 Try.sizeOf153 (ev_tmp rfl) (ev_tmp rfl) (by first | omega | ((try simp only [List.length_map, List.length_take, List.length_cons, List.length_nil, chunks_len, szR] at *); omega) | (have hc2 := hc; simp only [Bool.and_eq_true, Bool.or_eq_true, Bool.or_eq_false_iff, Bool.and_eq_false_iff, Bool.not_eq_true', Bool.not_eq_false', decide_eq_true_eq, decide_eq_false_iff_not, beq_iff_eq, bne_iff_ne, List.length_map, List.length_take] at hc2; omega)) (by first | omega | ((try simp only [List.length_map, List.length_take, List.length_cons, List.length_nil, chunks_len, szR] at *); omega) | (have hc2 := hc; simp only [Bool.and_eq_true, Bool.or_eq_true, Bool.or_eq_false_iff, Bool.and_eq_false_iff, Bool.not_eq_true', Bool.not_eq_false', decide_eq_true_eq, decide_eq_false_iff_not, beq_iff_eq, bne_iff_ne, List.length_map, List.length_take] at hc2; omega))) ?_
    refine sq_nil ?_
    refine awp_seq ?_
    refine awp_region ?_
    refine sq_plain rfl rfl rfl (w_move rfl (ev_tmp rfl)) ?_
    refine sq_plain rfl rfl rfl (w_vlen rfl Try.underlying53 (ev_tmp rfl)) ?_
    refine sq_plain rfl rfl rfl (w_assign rfl (ev_tmp rfl)) ?_
    refine sq_nil ?_
    refine awp_seq ?_
    refine awp_seq ?_
    refine awp_region ?_
    refine sq_plain rfl rfl rfl (w_move rfl (ev_tmp rfl)) ?_
    refine sq_plain rfl rfl rfl (w_eql rfl (ev_tmp rfl) ev_ci) ?_
    refine sq_nil ?_
    refine awp_cond (ev_tmp rfl) ?_ ?_
    · intro h16
      have k16 := eq_of_beqt h16; try simp only [List.length_map] at k16
      rw [h1] at k16; omega
    · intro h16
      have k16 := ne_of_beqf h16; try simp only [List.length_map] at k16
      refine awp_skip ?_
      refine awp_seq ?_
      refine awp_region ?_
      refine sq_plain rfl rfl rfl (w_move rfl (ev_tmp rfl)) ?_
      refine sq_plain rfl rfl rfl (w_vlen rfl Try.underlying53 (ev_tmp rfl)) ?_
      refine sq_plain rfl rfl rfl (w_assign rfl (ev_tmp rfl)) ?_
      refine sq_nil ?_
      refine awp_seq ?_
      refine awp_seq ?_
      refine awp_region ?_
      refine sq_plain rfl rfl rfl (w_move rfl (ev_tmp rfl)) ?_
      refine sq_plain rfl rfl rfl (w_move rfl (ev_tmp rfl)) ?_
      refine sq_plain rfl rfl rfl (w_eql rfl (ev_tmp rfl) (ev_tmp rfl)) ?_
      refine sq_nil ?_
      refine awp_cond (ev_tmp rfl) ?_ ?_
      · intro h22
        have k22 := eq_of_beqt h22; try simp only [List.length_map] at k22
        refine awp_seq ?_
        refine awp_region ?_
        refine sq_plain rfl rfl rfl (w_move rfl (ev_tmp rfl)) ?_
        refine sq_plain rfl rfl rfl (w_move rfl (ev_tmp rfl)) ?_
        refine sq_appendS (by' := 40) 0 rfl rfl rfl rfl Try.underlying53 Try.type153 rfl rfl rfl rfl rfl rfl (ev_tmp rfl) (src_own0 1 rfl (ev_tmp rfl)) (by simp) rfl (by simp only [List.length_map, List.length_cons, List.length_nil]; omega) ?_
        intro v25
        refine sq_plain rfl rfl rfl (w_assign rfl (ev_tmp rfl)) ?_
        refine sq_nil ?_
        refine awp_ret ?_
        exact retG [0] v25 (trivial) rfl (by exact congrArg (fun z => [Own.arr _ 153 2 z]) (by first | exact ins_grow hi (by simp) | exact ins_shift (by omega) | (have hil : i = l.length := (by omega); subst hil; simp; done) | (simp; done))) (resR rfl (rv_tmp' rfl (by first | rfl | (rw [hn]))))
      · intro h22
        have k22 := ne_of_beqf h22; try simp only [List.length_map] at k22
        refine awp_skip ?_
        refine awp_seq ?_
        refine awp_seq ?_
        refine awp_region ?_
        refine sq_plain rfl rfl rfl (w_move rfl (ev_tmp rfl)) ?_
        refine sq_plain rfl rfl rfl (w_move rfl (ev_tmp rfl)) ?_
        refine sq_plain rfl rfl rfl (w_addi rfl (ev_tmp rfl) (ev_tmp rfl) (by first | omega | ((try simp only [List.length_map, List.length_take, List.length_cons, List.length_nil, chunks_len, szR] at *); omega) | (have hc2 := hc; simp only [Bool.and_eq_true, Bool.or_eq_true, Bool.or_eq_false_iff, Bool.and_eq_false_iff, Bool.not_eq_true', Bool.not_eq_false', decide_eq_true_eq, decide_eq_false_iff_not, beq_iff_eq, bne_iff_ne, List.length_map, List.length_take] at hc2; omega))) ?_
        rw [e28]
        refine sq_plain rfl rfl rfl (w_move rfl (ev_tmp rfl)) ?_
        refine sq_plain rfl rfl rfl (w_vcap rfl Try.underlying53 (ev_tmp rfl)) ?_
        refine sq_plain rfl rfl rfl (w_gtr rfl (ev_tmp rfl) (ev_tmp rfl)) ?_
        refine sq_nil ?_
        refine awp_cond (ev_tmp rfl) ?_ ?_
        · intro h31
          have k31 := of_decide_eq_true h31; try simp only [List.length_map] at k31
          refine awp_seq ?_
          refine awp_region ?_
          refine sq_plain rfl rfl rfl (w_move rfl (ev_tmp rfl)) ?_
          refine sq_plain rfl rfl rfl (w_move rfl (ev_tmp rfl)) ?_
          refine sq_plain rfl rfl rfl (w_vhi rfl Try.underlying53 Try.sizeOf153 (ev_tmp rfl) (ev_tmp rfl) (by omega) (by rw [hn] at hlc; omega)) ?_
          refine sq_plain rfl rfl rfl (w_move rfl (ev_tmp rfl)) ?_
          refine sq_plain rfl rfl rfl (w_move rfl (ev_tmp rfl)) ?_
          refine sq_plain rfl rfl rfl (w_addi rfl (ev_tmp rfl) (ev_tmp rfl) (by first | omega | ((try simp only [List.length_map, List.length_take, List.length_cons, List.length_nil, chunks_len, szR] at *); omega) | (have hc2 := hc; simp only [Bool.and_eq_true, Bool.or_eq_true, Bool.or_eq_false_iff, Bool.and_eq_false_iff, Bool.not_eq_true', Bool.not_eq_false', decide_eq_true_eq, decide_eq_false_iff_not, beq_iff_eq, bne_iff_ne, List.length_map, List.length_take] at hc2; omega))) ?_
          rw [e28]
          refine sq_plain rfl rfl rfl (w_move rfl (ev_tmp rfl)) ?_
          refine sq_plain rfl rfl rfl (w_subi rfl (ev_tmp rfl) (ev_tmp rfl) (by first | omega | ((try simp only [List.length_map, List.length_take, List.length_cons, List.length_nil, chunks_len, szR] at *); omega) | (have hc2 := hc; simp only [Bool.and_eq_true, Bool.or_eq_true, Bool.or_eq_false_iff, Bool.and_eq_false_iff, Bool.not_eq_true', Bool.not_eq_false', decide_eq_true_eq, decide_eq_false_iff_not, beq_iff_eq, bne_iff_ne, List.length_map, List.length_take] at hc2; omega))) ?_
          rw [e39, Int.toNat_natCast]
          refine sq_appendZ (by' := 40) (j := i) (m := l.length + 1 - i) 0 rfl rfl rfl rfl Try.underlying53 Try.underlying3 Try.type153 rfl rfl rfl rfl rfl rfl (ev_tmp rfl) (ev_tmp rfl) rfl (by rw [hn]; exact hi) (by omega) (by omega) (by omega) (by omega) ?_
          intro g2 cap2 hcap2
          refine sq_plain rfl rfl rfl (w_assign rfl (ev_tmp rfl)) ?_
          refine sq_nil ?_
          refine awp_seq ?_
          refine awp_region ?_
          refine sq_plain rfl rfl rfl (w_move rfl (ev_tmp rfl)) ?_
          refine sq_plain rfl rfl rfl (w_move rfl (ev_tmp rfl)) ?_
          refine sq_plain rfl rfl rfl (w_vlo rfl Try.underlying53 Try.sizeOf153 (ev_tmp rfl) (ev_tmp rfl) (by first | omega | ((try simp only [List.length_map, List.length_take, List.length_cons, List.length_nil, chunks_len, szR] at *); omega) | (have hc2 := hc; simp only [Bool.and_eq_true, Bool.or_eq_true, Bool.or_eq_false_iff, Bool.and_eq_false_iff, Bool.not_eq_true', Bool.not_eq_false', decide_eq_true_eq, decide_eq_false_iff_not, beq_iff_eq, bne_iff_ne, List.length_map, List.length_take] at hc2; omega)) (by first | omega | ((try simp only [List.length_map, List.length_take, List.length_cons, List.length_nil, chunks_len, szR] at *); omega) | (have hc2 := hc; simp only [Bool.and_eq_true, Bool.or_eq_true, Bool.or_eq_false_iff, Bool.and_eq_false_iff, Bool.not_eq_true', Bool.not_eq_false', decide_eq_true_eq, decide_eq_false_iff_not, beq_iff_eq, bne_iff_ne, List.length_map, List.length_take] at hc2; omega))) ?_
          refine sq_plain rfl rfl rfl (w_move rfl (ev_tmp rfl)) ?_
          rw [Int.toNat_natCast]
          refine sq_copy (k := i) 0 rfl rfl rfl rfl Try.underlying53 Try.type153 rfl (ev_tmp rfl) (src_own0 2 rfl (ev_tmp rfl)) rfl (by rw [h1]; omega) (by rw [h1]; omega) hcap2 (by simp) ?_
          refine sq_nil ?_
          refine awp_seq ?_
          refine awp_region_tail 8 (by kernel_rfl) (by kernel_rfl) rfl ?_
          refine ch_plain rfl rfl (w_move rfl (ev_tmp rfl)) ?_
          refine ch_plain rfl rfl (w_move rfl (ev_tmp rfl)) ?_
          refine ch_plain rfl rfl (w_move rfl (ev_tmp rfl)) ?_
          refine ch_plain rfl rfl (w_addi rfl (ev_tmp rfl) (ev_tmp rfl) (by first | omega | ((try simp only [List.length_map, List.length_take, List.length_cons, List.length_nil, chunks_len, szR] at *); omega) | (have hc2 := hc; simp only [Bool.and_eq_true, Bool.or_eq_true, Bool.or_eq_false_iff, Bool.and_eq_false_iff, Bool.not_eq_true', Bool.not_eq_false', decide_eq_true_eq, decide_eq_false_iff_not, beq_iff_eq, bne_iff_ne, List.length_map, List.length_take] at hc2; omega))) ?_
          rw [e49]
          refine ch_plain rfl rfl (w_vlo rfl Try.underlying53 Try.sizeOf153 (ev_tmp rfl) (ev_tmp rfl) (by first | omega | ((try simp only [List.length_map, List.length_take, List.length_cons, List.length_nil, chunks_len, szR] at *); omega) | (have hc2 := hc; simp only [Bool.and_eq_true, Bool.or_eq_true, Bool.or_eq_false_iff, Bool.and_eq_false_iff, Bool.not_eq_true', Bool.not_eq_false', decide_eq_true_eq, decide_eq_false_iff_not, beq_iff_eq, bne_iff_ne, List.length_map, List.length_take] at hc2; omega)) (by first | omega | ((try simp only [List.length_map, List.length_take, List.length_cons, List.length_nil, chunks_len, szR] at *); omega) | (have hc2 := hc; simp only [Bool.and_eq_true, Bool.or_eq_true, Bool.or_eq_false_iff, Bool.and_eq_false_iff, Bool.not_eq_true', Bool.not_eq_false', decide_eq_true_eq, decide_eq_false_iff_not, beq_iff_eq, bne_iff_ne, List.length_map, List.length_take] at hc2; omega))) ?_
          refine ch_plain rfl rfl (w_move rfl (ev_tmp rfl)) ?_
          refine ch_plain rfl rfl (w_move rfl (ev_tmp rfl)) ?_
          refine ch_plain rfl rfl (w_vlo rfl Try.underlying53 Try.sizeOf153 (ev_tmp rfl) (ev_tmp rfl) (by first | omega | ((try simp only [List.length_map, List.length_take, List.length_cons, List.length_nil, chunks_len, szR] at *); omega) | (have hc2 := hc; simp only [Bool.and_eq_true, Bool.or_eq_true, Bool.or_eq_false_iff, Bool.and_eq_false_iff, Bool.not_eq_true', Bool.not_eq_false', decide_eq_true_eq, decide_eq_false_iff_not, beq_iff_eq, bne_iff_ne, List.length_map, List.length_take] at hc2; omega)) (by first | omega | ((try simp only [List.length_map, List.length_take, List.length_cons, List.length_nil, chunks_len, szR] at *); omega) | (have hc2 := hc; simp only [Bool.and_eq_true, Bool.or_eq_true, Bool.or_eq_false_iff, Bool.and_eq_false_iff, Bool.not_eq_true', Bool.not_eq_false', decide_eq_true_eq, decide_eq_false_iff_not, beq_iff_eq, bne_iff_ne, List.length_map, List.length_take] at hc2; omega))) ?_
          refine ch_nil ?_
          simp only [Int.toNat_natCast]
          refine sq_copy (k := i + 1) 0 rfl rfl rfl rfl Try.underlying53 Try.type153 rfl (ev_tmp rfl) (src_own 1 rfl (ev_tmp rfl)) rfl (by rw [List.length_drop, hn]; omega) (by rw [List.length_drop, hn]; omega) hcap2 (by intro h; have := congrArg List.length h; rw [List.length_drop, hn] at this; simp at this; omega) ?_
          refine sq_nil ?_
          refine awp_seq ?_
          refine awp_region ?_
          refine sq_plain rfl rfl rfl (w_move rfl (ev_tmp rfl)) ?_
          refine sq_plain rfl rfl rfl (w_assign rfl (ev_tmp rfl)) ?_
          refine sq_nil ?_
          refine awp_ret ?_
          exact retG [0] (slv g2 (i + (l.length + 1 - i)) cap2) (trivial) rfl (by exact congrArg (fun z => [Own.arr _ 153 2 z]) (by first | exact ins_grow hi (by simp) | exact ins_shift (by omega) | (have hil : i = l.length := (by omega); subst hil; simp; done) | (simp; done))) (resR rfl (rv_tmp' rfl (by first | rfl | (rw [hn]))))
        · intro h31
          have k31 := of_decide_eq_false h31; try simp only [List.length_map] at k31
          refine awp_skip ?_
          refine awp_seq ?_
          refine awp_region ?_
          refine sq_plain rfl rfl rfl (w_move rfl (ev_tmp rfl)) ?_
          refine sq_plain rfl rfl rfl (w_move rfl (ev_tmp rfl)) ?_
          refine sq_plain rfl rfl rfl (w_move rfl (ev_tmp rfl)) ?_
          refine sq_plain rfl rfl rfl (w_addi rfl (ev_tmp rfl) (ev_tmp rfl) (by first | omega | ((try simp only [List.length_map, List.length_take, List.length_cons, List.length_nil, chunks_len, szR] at *); omega) | (have hc2 := hc; simp only [Bool.and_eq_true, Bool.or_eq_true, Bool.or_eq_false_iff, Bool.and_eq_false_iff, Bool.not_eq_true', Bool.not_eq_false', decide_eq_true_eq, decide_eq_false_iff_not, beq_iff_eq, bne_iff_ne, List.length_map, List.length_take] at hc2; omega))) ?_
          rw [e28]
          refine sq_plain rfl rfl rfl (w_vhi rfl Try.underlying53 Try.sizeOf153 (ev_tmp rfl) (ev_tmp rfl) (by first | omega | ((try simp only [List.length_map, List.length_take, List.length_cons, List.length_nil, chunks_len, szR] at *); omega) | (have hc2 := hc; simp only [Bool.and_eq_true, Bool.or_eq_true, Bool.or_eq_false_iff, Bool.and_eq_false_iff, Bool.not_eq_true', Bool.not_eq_false', decide_eq_true_eq, decide_eq_false_iff_not, beq_iff_eq, bne_iff_ne, List.length_map, List.length_take] at hc2; omega)) (by first | omega | ((try simp only [List.length_map, List.length_take, List.length_cons, List.length_nil, chunks_len, szR] at *); omega) | (have hc2 := hc; simp only [Bool.and_eq_true, Bool.or_eq_true, Bool.or_eq_false_iff, Bool.and_eq_false_iff, Bool.not_eq_true', Bool.not_eq_false', decide_eq_true_eq, decide_eq_false_iff_not, beq_iff_eq, bne_iff_ne, List.length_map, List.length_take] at hc2; omega))) ?_
          rw [Int.toNat_natCast]
          refine sq_plain rfl rfl rfl (w_assign rfl (ev_tmp rfl)) ?_
          refine sq_nil ?_
          refine awp_seq ?_
          refine awp_seq ?_
          refine awp_region ?_
          refine sq_plain rfl rfl rfl (w_move rfl (ev_tmp rfl)) ?_
          refine sq_plain rfl rfl rfl (w_move rfl (ev_tmp rfl)) ?_
          refine sq_plain rfl rfl rfl (w_move rfl (ev_tmp rfl)) ?_
          refine sq_plain rfl rfl rfl (w_move rfl (ev_tmp rfl)) ?_
          refine sq_plain rfl rfl rfl (w_addi rfl (ev_tmp rfl) (ev_tmp rfl) (by first | omega | ((try simp only [List.length_map, List.length_take, List.length_cons, List.length_nil, chunks_len, szR] at *); omega) | (have hc2 := hc; simp only [Bool.and_eq_true, Bool.or_eq_true, Bool.or_eq_false_iff, Bool.and_eq_false_iff, Bool.not_eq_true', Bool.not_eq_false', decide_eq_true_eq, decide_eq_false_iff_not, beq_iff_eq, bne_iff_ne, List.length_map, List.length_take] at hc2; omega))) ?_
          rw [e49]
          refine sq_plain rfl rfl rfl (w_vlo rfl Try.underlying53 Try.sizeOf153 (ev_tmp rfl) (ev_tmp rfl) (by first | omega | ((try simp only [List.length_map, List.length_take, List.length_cons, List.length_nil, chunks_len, szR] at *); omega) | (have hc2 := hc; simp only [Bool.and_eq_true, Bool.or_eq_true, Bool.or_eq_false_iff, Bool.and_eq_false_iff, Bool.not_eq_true', Bool.not_eq_false', decide_eq_true_eq, decide_eq_false_iff_not, beq_iff_eq, bne_iff_ne, List.length_map, List.length_take] at hc2; omega)) (by first | omega | ((try simp only [List.length_map, List.length_take, List.length_cons, List.length_nil, chunks_len, szR] at *); omega) | (have hc2 := hc; simp only [Bool.and_eq_true, Bool.or_eq_true, Bool.or_eq_false_iff, Bool.and_eq_false_iff, Bool.not_eq_true', Bool.not_eq_false', decide_eq_true_eq, decide_eq_false_iff_not, beq_iff_eq, bne_iff_ne, List.length_map, List.length_take] at hc2; omega))) ?_
          rw [Int.toNat_natCast]
          refine sq_plain rfl rfl rfl (w_overlapsF (tb := 4) 1 0 rfl Try.func279 (by kernel_rfl) (by kernel_rfl) (by kernel_rfl) (by kernel_rfl) Try.underlying53 Try.sizeOf153 (ev_tmp rfl) (ev_tmp rfl) rfl rfl rfl (by omega) rfl) ?_
          refine sq_plain rfl rfl rfl (w_not rfl (ev_tmp rfl)) ?_
          refine sq_nil ?_
          refine awp_cond (ev_tmp rfl) ?_ ?_
          · intro h68
            refine awp_seq ?_
            refine awp_region_tail 8 (by kernel_rfl) (by kernel_rfl) rfl ?_
            refine ch_plain rfl rfl (w_move rfl (ev_tmp rfl)) ?_
            refine ch_plain rfl rfl (w_move rfl (ev_tmp rfl)) ?_
            refine ch_plain rfl rfl (w_move rfl (ev_tmp rfl)) ?_
            refine ch_plain rfl rfl (w_addi rfl (ev_tmp rfl) (ev_tmp rfl) (by first | omega | ((try simp only [List.length_map, List.length_take, List.length_cons, List.length_nil, chunks_len, szR] at *); omega) | (have hc2 := hc; simp only [Bool.and_eq_true, Bool.or_eq_true, Bool.or_eq_false_iff, Bool.and_eq_false_iff, Bool.not_eq_true', Bool.not_eq_false', decide_eq_true_eq, decide_eq_false_iff_not, beq_iff_eq, bne_iff_ne, List.length_map, List.length_take] at hc2; omega))) ?_
            rw [e49]
            refine ch_plain rfl rfl (w_vlo rfl Try.underlying53 Try.sizeOf153 (ev_tmp rfl) (ev_tmp rfl) (by first | omega | ((try simp only [List.length_map, List.length_take, List.length_cons, List.length_nil, chunks_len, szR] at *); omega) | (have hc2 := hc; simp only [Bool.and_eq_true, Bool.or_eq_true, Bool.or_eq_false_iff, Bool.and_eq_false_iff, Bool.not_eq_true', Bool.not_eq_false', decide_eq_true_eq, decide_eq_false_iff_not, beq_iff_eq, bne_iff_ne, List.length_map, List.length_take] at hc2; omega)) (by first | omega | ((try simp only [List.length_map, List.length_take, List.length_cons, List.length_nil, chunks_len, szR] at *); omega) | (have hc2 := hc; simp only [Bool.and_eq_true, Bool.or_eq_true, Bool.or_eq_false_iff, Bool.and_eq_false_iff, Bool.not_eq_true', Bool.not_eq_false', decide_eq_true_eq, decide_eq_false_iff_not, beq_iff_eq, bne_iff_ne, List.length_map, List.length_take] at hc2; omega))) ?_
            refine ch_plain rfl rfl (w_move rfl (ev_tmp rfl)) ?_
            refine ch_plain rfl rfl (w_move rfl (ev_tmp rfl)) ?_
            refine ch_plain rfl rfl (w_vlo rfl Try.underlying53 Try.sizeOf153 (ev_tmp rfl) (ev_tmp rfl) (by first | omega | ((try simp only [List.length_map, List.length_take, List.length_cons, List.length_nil, chunks_len, szR] at *); omega) | (have hc2 := hc; simp only [Bool.and_eq_true, Bool.or_eq_true, Bool.or_eq_false_iff, Bool.and_eq_false_iff, Bool.not_eq_true', Bool.not_eq_false', decide_eq_true_eq, decide_eq_false_iff_not, beq_iff_eq, bne_iff_ne, List.length_map, List.length_take] at hc2; omega)) (by first | omega | ((try simp only [List.length_map, List.length_take, List.length_cons, List.length_nil, chunks_len, szR] at *); omega) | (have hc2 := hc; simp only [Bool.and_eq_true, Bool.or_eq_true, Bool.or_eq_false_iff, Bool.and_eq_false_iff, Bool.not_eq_true', Bool.not_eq_false', decide_eq_true_eq, decide_eq_false_iff_not, beq_iff_eq, bne_iff_ne, List.length_map, List.length_take] at hc2; omega))) ?_
            refine ch_nil ?_
            simp only [Int.toNat_natCast]
            refine sq_shift (k := i) (len := (l.map id).length) 0 rfl rfl rfl rfl Try.underlying53 Try.type153 rfl (by rw [hn]; exact ev_tmp rfl) (by rw [hn]; exact ev_tmp rfl) rfl (by omega) (by omega) ?_
            intro j77
            refine sq_nil ?_
            refine awp_seq ?_
            refine awp_region ?_
            refine sq_plain rfl rfl rfl (w_move rfl (ev_tmp rfl)) ?_
            refine sq_plain rfl rfl rfl (w_move rfl (ev_tmp rfl)) ?_
            refine sq_plain rfl rfl rfl (w_vlo rfl Try.underlying53 Try.sizeOf153 (ev_tmp rfl) (ev_tmp rfl) (by first | omega | ((try simp only [List.length_map, List.length_take, List.length_cons, List.length_nil, chunks_len, szR] at *); omega) | (have hc2 := hc; simp only [Bool.and_eq_true, Bool.or_eq_true, Bool.or_eq_false_iff, Bool.and_eq_false_iff, Bool.not_eq_true', Bool.not_eq_false', decide_eq_true_eq, decide_eq_false_iff_not, beq_iff_eq, bne_iff_ne, List.length_map, List.length_take] at hc2; omega)) (by first | omega | ((try simp only [List.length_map, List.length_take, List.length_cons, List.length_nil, chunks_len, szR] at *); omega) | (have hc2 := hc; simp only [Bool.and_eq_true, Bool.or_eq_true, Bool.or_eq_false_iff, Bool.and_eq_false_iff, Bool.not_eq_true', Bool.not_eq_false', decide_eq_true_eq, decide_eq_false_iff_not, beq_iff_eq, bne_iff_ne, List.length_map, List.length_take] at hc2; omega))) ?_
            refine sq_plain rfl rfl rfl (w_move rfl (ev_tmp rfl)) ?_
            rw [Int.toNat_natCast]
            refine sq_copy (k := i) 0 rfl rfl rfl rfl Try.underlying53 Try.type153 rfl (ev_tmp rfl) (src_own0 1 rfl (ev_tmp rfl)) rfl (by rw [h1, hn]; omega) (by rw [h1]; omega) (by omega) (by simp) ?_
            refine sq_nil ?_
            refine awp_seq ?_
            refine awp_region ?_
            refine sq_plain rfl rfl rfl (w_move rfl (ev_tmp rfl)) ?_
            refine sq_plain rfl rfl rfl (w_assign rfl (ev_tmp rfl)) ?_
            refine sq_nil ?_
            refine awp_ret ?_
            exact retG [0] (slv g ((l.map id).length + 1) cap) (trivial) rfl (by exact congrArg (fun z => [Own.arr _ 153 2 z]) (by first | exact ins_grow hi (by simp) | exact ins_shift (by omega) | (have hil : i = l.length := (by omega); subst hil; simp; done) | (simp; done))) (resR rfl (rv_tmp' rfl (by first | rfl | (rw [hn]))))
          · intro h68
            cases h68

theorem copyCells_own (l : List TCell) (hs : sizeL TCell.size l ≤ 4194304) : GSpec Try.prog 180 [AV.list 2 (l.map TCell.cs)] [] (fun x : Value × List Value => x.2.length = l.length) (fun x => .arr x.1 153 2 (nrows TCell.ocs l x.2) :: nin TCell.ow l x.2) (fun x => AV.is x.1) := by
  have hl : l.length ≤ 4194304 := Nat.le_trans sizeL_len hs
  refine gspec_of_awp Try.func180 rfl Try.ntmps180 rfl ?_
  refine awp_seq ?_
  refine awp_region ?_
  refine sq_plain rfl rfl rfl (w_assign rfl ev_cnils) ?_
  refine sq_nil ?_
  refine awp_seq ?_
  refine awp_region ?_
  refine sq_plain rfl rfl rfl (w_move rfl (ev_tmp rfl)) ?_
  refine sq_callG [] rfl rfl rfl rfl Try.call249 rfl (cloneCell_spec _ (by first | assumption | omega)) (evl_cons (ev_tmp rfl) evl_nil) rfl ?_
  intro x6 ok6
  refine sq_plain rfl rfl rfl (w_assign rfl (ev_tmp rfl)) ?_
  refine sq_nil ?_
  refine awp_seq ?_
  refine awp_seq ?_
  refine awp_region ?_
  refine sq_plain rfl rfl rfl (w_move rfl (ev_tmp rfl)) ?_
  refine sq_plain rfl rfl rfl (w_alen 0 rfl Try.underlying53 (ev_tmp rfl) rfl) ?_
  refine sq_plain rfl rfl rfl (w_move rfl ev_ci) ?_
  refine sq_nil ?_
  refine awp_block ?_
  refine awp_loop_i2 [(2, _), (3, _), (8, _)] [] (fun (i : Nat) (xs : List Value) => i ≤ l.length ∧ xs.length = i) (fun (i : Nat) (xs : List Value) => [.arr x6 153 2 (nrows TCell.ocs (l.take i) xs ++ (l.drop i).map TCell.cs)] ++ (nin TCell.ow (l.take i) xs)) (fun (i : Nat) (xs : List Value) => [(9, AV.int i)]) (fun (i : Nat) (xs : List Value) => l.length - i) (0) ([]) ?_ (le_eq (by rfl) ⟨rfl, rfl, rfl, rfl, trivial⟩) ?_
  · exact ⟨Nat.zero_le _, rfl⟩
  intro i xs hinv
  refine awp_own (List.append_nil _) ?_
  refine awp_seq ?_
  refine awp_region ?_
  refine sq_plain rfl rfl rfl (w_lss rfl (ev_tmp rfl) (ev_tmp rfl)) ?_
  refine sq_nil ?_
  refine awp_seq ?_
  refine awp_cond (ev_tmp rfl) ?_ ?_
  · intro h10
    have k10 := of_decide_eq_true h10; try simp only [List.length_map] at k10
    have hlt : i < l.length := by omega
    obtain ⟨x, hx⟩ := get_some hlt
    have hsx := cell_len (Nat.le_trans (sizeL_get hx) hs)
    rw [drop_some hx, List.map_cons]
    refine awp_skip ?_
    refine awp_seq ?_
    refine awp_block ?_
    refine awp_seq ?_
    refine awp_region ?_
    refine sq_plain rfl rfl rfl (w_move rfl (ev_tmp rfl)) ?_
    refine sq_plain rfl rfl rfl (w_assign rfl (ev_tmp rfl)) ?_
    refine sq_nil ?_
    refine awp_region ?_
    refine sq_plain rfl rfl rfl (w_move rfl (ev_tmp rfl)) ?_
    refine sq_plain rfl rfl rfl (w_move rfl (ev_tmp rfl)) ?_
    refine sq_plain rfl rfl rfl (w_move rfl (ev_tmp rfl)) ?_
    refine sq_plain rfl rfl rfl (w_move rfl (ev_tmp rfl)) ?_
    refine sq_plain rfl rfl rfl (w_aidx 0 rfl Try.underlying53 Try.sizeOf153 (ev_tmp rfl) rfl (ev_tmp rfl) (by omega) (by rw [List.length_append, List.length_cons, nrows_len (by rw [hinv.2, List.length_take]; omega), List.length_take]; omega)) ?_
    refine sq_plain rfl rfl rfl (w_fldX 0 rfl Try.underlying153 rfl Try.sizeOf151 (ev_tmp rfl) rfl rfl (app_get (show (nrows TCell.ocs (l.take i) xs).length = i by rw [nrows_len (by rw [hinv.2, List.length_take]; omega), List.length_take]; omega))) ?_
    refine sq_plain rfl rfl rfl (w_loadXf 0 rfl (ev_tmp rfl) rfl Try.isAgg151 (app_get (show (nrows TCell.ocs (l.take i) xs).length = i by rw [nrows_len (by rw [hinv.2, List.length_take]; omega), List.length_take]; omega)) rfl) ?_
    refine sq_callG [] rfl rfl rfl rfl Try.call231 rfl (cloneVer_spec _ (by first | assumption | omega)) (evl_cons (ev_tmp rfl) evl_nil) rfl ?_
    intro x19 ok19
    refine sq_plain rfl rfl rfl (w_aidx 1 rfl Try.underlying53 Try.sizeOf153 (ev_tmp rfl) rfl (ev_tmp rfl) (by omega) (by rw [List.length_append, List.length_cons, nrows_len (by rw [hinv.2, List.length_take]; omega), List.length_take]; omega)) ?_
    refine sq_plain rfl rfl rfl (w_fldX 1 rfl Try.underlying153 rfl Try.sizeOf151 (ev_tmp rfl) rfl rfl (app_get (show (nrows TCell.ocs (l.take i) xs).length = i by rw [nrows_len (by rw [hinv.2, List.length_take]; omega), List.length_take]; omega))) ?_
    refine sq_fact 0 rfl fun one_x19 => ?_
    refine sq_storeXA 1 rfl rfl rfl (ev_tmp rfl) (ev_tmp rfl) (as_is one_x19) rfl Try.sizeOf151 (show (nrows TCell.ocs (l.take i) xs).length = i by rw [nrows_len (by rw [hinv.2, List.length_take]; omega), List.length_take]; omega) rfl ?_
    refine sq_nil ?_
    refine AWP.le (le_pick [1, 0] rfl) ?_
    refine AWP.le (le_tail 1 (t := nin TCell.ow (l.take (i + 1)) (xs ++ [x19])) (nin_step (ow := TCell.ow) (x := x19) hx hinv.2)) ?_
    refine awp_region ?_
    refine sq_plain rfl rfl rfl (w_addi rfl (ev_tmp rfl) ev_ci (by first | omega | ((try simp only [List.length_map, List.length_take, List.length_cons, List.length_nil, chunks_len, szR] at *); omega) | (have hc2 := hc; simp only [Bool.and_eq_true, Bool.or_eq_true, Bool.or_eq_false_iff, Bool.and_eq_false_iff, Bool.not_eq_true', Bool.not_eq_false', decide_eq_true_eq, decide_eq_false_iff_not, beq_iff_eq, bne_iff_ne, List.length_map, List.length_take] at hc2; omega))) ?_
    refine sq_plain rfl rfl rfl (w_move rfl (ev_tmp rfl)) ?_
    refine sq_nil ?_
    refine round_end2 i xs (i + 1) (xs ++ [x19]) ?_ ?_ (le_eq (Eq.trans (by exact congrArg (fun z => Own.arr _ _ _ z :: _) (ncopy_step hx hinv.2)) (List.append_nil _).symm) ⟨rfl, rfl, rfl, rfl, trivial⟩)
    · exact ⟨by omega, by rw [List.length_append, hinv.2]; rfl⟩
    · omega
  · intro h10
    have k10 := of_decide_eq_false h10; try simp only [List.length_map] at k10
    have hge : i = l.length := by omega
    have hxs := hinv.2.trans hge
    rw [show l.take i = l from List.take_of_length_le (by omega), show l.drop i = [] from List.drop_eq_nil_of_le (by omega), List.map_nil, List.append_nil]
    refine awp_exit ?_
    refine awp_seq ?_
    refine awp_region ?_
    refine sq_plain rfl rfl rfl (w_move rfl (ev_tmp rfl)) ?_
    refine sq_plain rfl rfl rfl (w_assign rfl (ev_tmp rfl)) ?_
    refine sq_nil ?_
    refine awp_ret ?_
    exact retGT [0] 0 (nin TCell.ow l xs) [] (x6, xs) (hxs) rfl (show List.Perm (nin TCell.ow l xs) ((nin TCell.ow l xs) ++ []) from perm_nil) (by rfl) (resR rfl (rv_tmp' rfl (by first | rfl | (refine congrArg AV.bool ?_; simp_all; done))))
theorem l3Own_own (l : List TCell) (hs : sizeL TCell.size l ≤ 4194304) : GSpec Try.prog 169 [AV.list 2 (l.map TCell.cs)] [] (fun x : Value × List Value => x.2.length = l.length) (fun x => .arr x.1 153 2 (nrows TCell.ocs l x.2) :: nin TCell.ow l x.2) (fun x => AV.is x.1) := by
  have hl : l.length ≤ 4194304 := Nat.le_trans sizeL_len hs
  refine gspec_of_awp Try.func169 rfl Try.ntmps169 rfl ?_
  refine awp_seq ?_
  refine awp_region ?_
  refine sq_plain rfl rfl rfl (w_assign rfl ev_cnils) ?_
  refine sq_nil ?_
  refine awp_seq ?_
  refine awp_region ?_
  refine sq_nilarr 153 2 rfl rfl rfl rfl ev_cnils ?_
  intro v3
  refine sq_nil ?_
  refine awp_seq ?_
  refine awp_seq ?_
  refine awp_region ?_
  refine sq_plain rfl rfl rfl (w_move rfl (ev_tmp rfl)) ?_
  refine sq_plain rfl rfl rfl (w_llen rfl Try.underlying53 (ev_tmp rfl)) ?_
  refine sq_plain rfl rfl rfl (w_move rfl ev_ci) ?_
  refine sq_nil ?_
  refine awp_block ?_
  refine awp_loop_i3 [(2, _), (6, _), (7, _)] [] (fun (i : Nat) (v : Value) (xs : List Value) => i ≤ l.length ∧ xs.length = i) (fun (i : Nat) (v : Value) (xs : List Value) => [.arr v 153 2 (nrows TCell.ocs (l.take i) xs)] ++ (nin TCell.ow (l.take i) xs)) (fun (i : Nat) (v : Value) (xs : List Value) => [(3, AV.is v), (8, AV.int i)]) (fun (i : Nat) (v : Value) (xs : List Value) => l.length - i) (0) (v3) ([]) ?_ (le_eq (by rfl) ⟨rfl, rfl, rfl, rfl, rfl, trivial⟩) ?_
  · exact ⟨Nat.zero_le _, rfl⟩
  intro i v xs hinv
  refine awp_own (List.append_nil _) ?_
  refine awp_seq ?_
  refine awp_region ?_
  refine sq_plain rfl rfl rfl (w_lss rfl (ev_tmp rfl) (ev_tmp rfl)) ?_
  refine sq_nil ?_
  refine awp_seq ?_
  refine awp_cond (ev_tmp rfl) ?_ ?_
  · intro h9
    have k9 := of_decide_eq_true h9; try simp only [List.length_map] at k9
    have hlt : i < l.length := by omega
    obtain ⟨x, hx⟩ := get_some hlt
    have hsx := cell_len (Nat.le_trans (sizeL_get hx) hs)
    refine awp_skip ?_
    refine awp_seq ?_
    refine awp_block ?_
    refine awp_seq ?_
    refine awp_region ?_
    refine sq_plain rfl rfl rfl (w_idxm rfl Try.underlying53 Try.sizeOf153 (ev_tmp rfl) (ev_tmp rfl) hx (by first | omega | ((try simp only [List.length_map, List.length_take, List.length_cons, List.length_nil, chunks_len, szR] at *); omega) | (have hc2 := hc; simp only [Bool.and_eq_true, Bool.or_eq_true, Bool.or_eq_false_iff, Bool.and_eq_false_iff, Bool.not_eq_true', Bool.not_eq_false', decide_eq_true_eq, decide_eq_false_iff_not, beq_iff_eq, bne_iff_ne, List.length_map, List.length_take] at hc2; omega))) ?_
    refine sq_plain rfl rfl rfl (w_loadE rfl (ev_tmp rfl) Try.isAgg153 Try.sizeOf153) ?_
    refine sq_alloc rfl rfl rfl rfl Try.zeroValue153 rfl ?_
    intro b5
    refine sq_storeB0 0 rfl rfl rfl (ev_tmp rfl) (ev_tmp rfl) (as_agg _) rfl Try.sizeOf153 rfl ?_
    refine sq_nil ?_
    refine awp_region_mix _ [(0, false), (1, false), (2, false), (4, false), (5, false), (3, true), (6, true), (7, false), (8, false), (9, true)] (by kernel_rfl) (by kernel_rfl) rfl (invx_take 1) ?_
    refine bc_plain rfl rfl rfl (fun ext => w_move rfl (ev_tmp rfl)) ?_
    refine bc_plain rfl rfl rfl (fun ext => w_fldBn 0 rfl Try.underlying153 rfl Try.sizeOf9 (ev_tmp rfl) rfl) ?_
    refine bc_plain rfl rfl rfl (fun ext => w_loadB1 0 rfl (ev_tmp rfl) rfl Try.isAgg9 rfl) ?_
    refine bc_plain rfl rfl rfl (fun ext => w_fldBn 1 rfl Try.underlying153 rfl Try.sizeOf151 (ev_tmp rfl) rfl) ?_
    refine bc_plain rfl rfl rfl (fun ext => w_loadB1 0 rfl (ev_tmp rfl) rfl Try.isAgg151 rfl) ?_
    refine bc_eff rfl rfl rfl (opE_mid 2 <| opE_empty rfl Try.underlying151 Try.sizeOf155) (fun a _ => (by first | exact invx_mk rfl | exact invx_mk (List.append_assoc _ _ _) | exact invx_all)) ?_
    intro v15 _
    refine bc_eff rfl rfl rfl (opE_one 2 (fun _ => rfl) (opE_append (by' := 32) 2 rfl Try.underlying151 Try.type155 rfl rfl rfl rfl rfl rfl (ev_tmp rfl) (ev_tmp rfl) rfl (by first | omega | ((try simp only [List.length_map, List.length_take, List.length_cons, List.length_nil, chunks_len, szR] at *); omega) | (have hc2 := hc; simp only [Bool.and_eq_true, Bool.or_eq_true, Bool.or_eq_false_iff, Bool.and_eq_false_iff, Bool.not_eq_true', Bool.not_eq_false', decide_eq_true_eq, decide_eq_false_iff_not, beq_iff_eq, bne_iff_ne, List.length_map, List.length_take] at hc2; omega)))) (fun a _ => (by first | exact invx_mk rfl | exact invx_mk (List.append_assoc _ _ _) | exact invx_all)) ?_
    intro v18_1 hone_v18_1
    have one_v18_1 := hone_v18_1.2
    refine bc_plain rfl rfl rfl (fun ext => w_build (places := #[(0, 1), (1, 1)]) rfl Try.underlying153 Try.zeroValue153 (fun w => by kernel_rfl) rfl (bp_cons (ev_tmp rfl) (as_str _) (bp_cons (ev_tmp rfl) (as_is one_v18_1) bp_nil)) rfl) ?_
    refine bc_plain rfl rfl rfl (fun ext => w_bslice rfl Try.underlying53 Try.sizeOf153 Try.zeroValue153 rfl rfl rfl rfl (bp_cons (ev_tmp rfl) (as_agg _) bp_nil) rfl rfl) ?_
    refine bc_eff rfl rfl rfl (opE_append (by' := 40) 1 rfl Try.underlying53 Try.type153 rfl rfl rfl rfl rfl rfl (ev_tmp rfl) (ev_tmp rfl) rfl (by rw [nrows_len (by rw [hinv.2, List.length_take]; omega), chunks_len, List.length_take]; omega)) (fun a _ => (by first | exact invx_mk rfl | exact invx_mk (List.append_assoc _ _ _) | exact invx_all)) ?_
    intro v21_2 _
    refine bc_nil ?_
    refine sq_plain rfl rfl rfl (w_assign rfl (ev_tmp rfl)) ?_
    refine sq_nil ?_
    refine AWP.le (le_pick [0, 0, 0] rfl) ?_
    refine AWP.le (le_tail 2 (t := nin TCell.ow (l.take (i + 1)) (xs ++ [v18_1])) (nin_step (ow := TCell.ow) (x := v18_1) hx hinv.2)) ?_
    refine awp_region ?_
    refine sq_plain rfl rfl rfl (w_addi rfl (ev_tmp rfl) ev_ci (by first | omega | ((try simp only [List.length_map, List.length_take, List.length_cons, List.length_nil, chunks_len, szR] at *); omega) | (have hc2 := hc; simp only [Bool.and_eq_true, Bool.or_eq_true, Bool.or_eq_false_iff, Bool.and_eq_false_iff, Bool.not_eq_true', Bool.not_eq_false', decide_eq_true_eq, decide_eq_false_iff_not, beq_iff_eq, bne_iff_ne, List.length_map, List.length_take] at hc2; omega))) ?_
    refine sq_plain rfl rfl rfl (w_move rfl (ev_tmp rfl)) ?_
    refine sq_nil ?_
    refine round_end3 i v xs (i + 1) (v21_2) (xs ++ [v18_1]) ?_ ?_ (le_dropeq 1 (Eq.trans (by exact congrArg (fun z => Own.arr _ _ _ z :: _) (nrows_step hx hinv.2)) (List.append_nil _).symm) ⟨rfl, rfl, rfl, rfl, rfl, trivial⟩)
    · exact ⟨by omega, by rw [List.length_append, hinv.2]; rfl⟩
    · omega
  · intro h9
    have k9 := of_decide_eq_false h9; try simp only [List.length_map] at k9
    have hge : i = l.length := by omega
    have hxs := hinv.2.trans hge
    rw [show l.take i = l from List.take_of_length_le (by omega)]
    refine awp_exit ?_
    refine awp_seq ?_
    refine awp_region ?_
    refine sq_plain rfl rfl rfl (w_move rfl (ev_tmp rfl)) ?_
    refine sq_plain rfl rfl rfl (w_assign rfl (ev_tmp rfl)) ?_
    refine sq_nil ?_
    refine awp_ret ?_
    exact retGT [0] 0 (nin TCell.ow l xs) [] (v, xs) (hxs) rfl (show List.Perm (nin TCell.ow l xs) ((nin TCell.ow l xs) ++ []) from perm_nil) (by rfl) (resR rfl (rv_tmp' rfl (by first | rfl | (refine congrArg AV.bool ?_; simp_all; done))))
end Go.Proofs.Yteliahajeokciaa

set_option linter.unusedVariables false
set_option linter.unusedSimpArgs false
set_option maxRecDepth 100000
set_option maxHeartbeats 1000000
namespace Go.Proofs.Yteliahajeokciaa
open Go Go.AV Go.M
attribute [local irreducible] OpW OpA OpS AWP FSpec ESpec GSpec OpE RetOk RetOkG RvDen Le Ev GuardIs SrcIs
theorem insertRows_own' (v vv : Value) (l : List (List AV)) (x : List AV) (hx2 : x.length = 2) (hl2 : ∀ r ∈ l, r.length = 2) (i : Nat) (hi : i ≤ l.length) (hl : l.length ≤ 4194304) : GSpec Try.prog 241 [AV.is v, AV.int i, AV.is vv] [.arr v 153 2 l, .arr vv 153 2 [x]] (fun _ : Value => True) (fun v => [.arr v 153 2 (l.take i ++ x :: l.drop i)]) (fun v => AV.is v) := by
  have := insertRows_own v vv l x hx2 hl2 i hi hl
  simpa only [List.map_id, id_eq] using this
theorem nrows_two {l : List TCell} {xs : List Value} : ∀ r ∈ nrows TCell.ocs l xs, r.length = 2 := fun r hr => by
  unfold nrows at hr
  obtain ⟨i, hi⟩ := List.getElem?_of_mem hr
  rw [List.getElem?_zipWith] at hi
  split at hi
  · injection hi with hi; subst hi; rfl
  · cases hi
theorem size_take_le {α : Type} {f : α → Nat} {l : List α} (i : Nat) : sizeL f (l.take i) ≤ sizeL f l := by
  have := sizeL_append (f := f) (l := l.take i) (r := l.drop i)
  rw [List.take_append_drop] at this; omega
theorem size_take_succ {α : Type} {f : α → Nat} {l : List α} {i : Nat} {x : α} (h : l[i]? = some x) : sizeL f (l.take (i + 1)) = sizeL f (l.take i) + (1 + f x) := by
  rw [List.take_add_one, h, sizeL_append]
  show _ + sizeL f [x] = _
  rw [sizeL_cons]; rfl
/-- What a put does to rows and to what they hold. -/
def RowsTo (A : List (List AV)) (k : Str) (vs : List (List AV)) (B : List (List AV)) (D : List Own) (o2 : List TCell) (f : Value → List Value) : Prop :=
  ∀ y : Value, (f y).length = o2.length ∧ A ++ [AV.str k, AV.is y] :: B = nrows TCell.ocs o2 (f y) ∧ (Own.arr y 155 3 vs :: D).Perm (nin TCell.ow o2 (f y))
theorem rowsTo_set {o : List TCell} {xs : List Value} {p : Nat} {c : TCell} {y0 : Value} (hc : o[p]? = some c) (hy : xs[p]? = some y0) (hl : xs.length = o.length) (nv : TVer) :
    RowsTo (nrows TCell.ocs (o.take p) (xs.take p)) c.Key (c.Vers.map TVer.cs ++ [TVer.cs nv]) (nrows TCell.ocs (o.drop (p + 1)) (xs.drop (p + 1))) (nin TCell.ow (o.eraseIdx p) (xs.eraseIdx p)) (o.set p ⟨c.Key, c.Vers ++ [nv]⟩) (fun y => xs.set p y) := fun y => by
  have hp := (List.getElem?_eq_some_iff.1 hc).1
  have hx := (List.getElem?_eq_some_iff.1 hy).1
  have hc' : (o.set p ⟨c.Key, c.Vers ++ [nv]⟩)[p]? = some ⟨c.Key, c.Vers ++ [nv]⟩ := List.getElem?_set_self hp
  have hy' : (xs.set p y)[p]? = some y := List.getElem?_set_self hx
  refine ⟨by rw [List.length_set, List.length_set, hl], ?_, ?_⟩
  · rw [nrows_split hc' hy', List.take_set_of_le (Nat.le_refl _), List.take_set_of_le (Nat.le_refl _), List.drop_set_of_lt (by omega), List.drop_set_of_lt (by omega)]
    rfl
  · have h := nin_get (ow := TCell.ow) hc' hy'
    rw [List.eraseIdx_set_eq, List.eraseIdx_set_eq] at h
    refine List.Perm.trans ?_ h.symm
    unfold TCell.ow
    simp only [List.map_append, List.map_cons, List.map_nil]
    exact List.Perm.refl _
theorem rowsTo_ins {o : List TCell} {xs : List Value} {p : Nat} (hp : p ≤ o.length) (hl : xs.length = o.length) (k : Str) (nv : TVer) :
    RowsTo ((nrows TCell.ocs o xs).take p) k [TVer.cs nv] ((nrows TCell.ocs o xs).drop p) (nin TCell.ow o xs) (o.take p ++ ⟨k, [nv]⟩ :: o.drop p) (fun y => xs.take p ++ y :: xs.drop p) := fun y =>
  ⟨by rw [insx_len (by omega), insx_len hp, hl], nrows_ins (ocs := TCell.ocs) (p := ⟨k, [nv]⟩) hp hl, nin_ins (ow := TCell.ow) (p := ⟨k, [nv]⟩) hp hl⟩
theorem put_step {l o : List TCell} {w : List TWrite} {t : Int} {i : Nat} {x : TWrite} (h : putAll l w t = putAll o (w.drop i) t) (hx : w[i]? = some x) (ht : ¬ t ≤ lastTime o x.Key) : putAll l w t = putAll (putC1 o x t) (w.drop (i + 1)) t := by
  rw [h, drop_some hx]
  unfold putAll
  rw [if_neg (by simpa using ht)]
  cases w.drop (i + 1) <;> rfl
theorem put_stop {l o : List TCell} {w : List TWrite} {t : Int} {i : Nat} {x : TWrite} (h : putAll l w t = putAll o (w.drop i) t) (hx : w[i]? = some x) (ht : t ≤ lastTime o x.Key) : putAll l w t = none := by
  rw [h, drop_some hx]
  unfold putAll
  rw [if_pos (by simpa using ht)]
theorem put_end {l o : List TCell} {w : List TWrite} {t : Int} {i : Nat} (h : putAll l w t = putAll o (w.drop i) t) (hi : w.length ≤ i) : putAll l w t = some o := by
  rw [h, List.drop_eq_nil_of_le hi]; rfl
theorem putCells_own (l : List TCell) (w : List TWrite) (t : Int) (ho : CellsOk l) (hs : sizeL TCell.size l ≤ 1048576) (hw : sizeL TWrite.size w ≤ 1048576) : GSpec Try.prog 156 [AV.list 2 (l.map TCell.cs), AV.list 3 (w.map TWrite.cs), AV.int t] [] (fun x : Value × List Value => x.2.length = (putCells l w t).1.length) (fun x => .arr x.1 153 2 (nrows TCell.ocs (putCells l w t).1 x.2) :: nin TCell.ow (putCells l w t).1 x.2) (fun x => AV.tup [AV.is x.1, AV.bool (putCells l w t).2]) := by
  have hwl : w.length ≤ 1048576 := Nat.le_trans sizeL_len hw
  refine gspec_of_awp Try.func156 rfl Try.ntmps156 rfl ?_
  refine awp_seq ?_
  refine awp_region ?_
  refine sq_plain rfl rfl rfl (w_assign rfl ev_cnils) ?_
  refine sq_plain rfl rfl rfl (w_assign rfl ev_cb) ?_
  refine sq_nil ?_
  refine awp_seq ?_
  refine awp_region ?_
  refine sq_plain rfl rfl rfl (w_move rfl (ev_tmp rfl)) ?_
  refine sq_callGT [] 0 1 ([]) ([]) (fun zz => nin TCell.ow l zz.2) rfl rfl rfl rfl Try.call180 rfl rfl (show List.Perm ([]) (([]) ++ ([])) from List.Perm.refl _) (copyCells_own l (by omega)) (evl_cons (ev_tmp rfl) evl_nil) (fun a => perm_lin) ?_
  intro x14 ok14
  refine sq_plain rfl rfl rfl (w_assign rfl (ev_tmp rfl)) ?_
  refine sq_nil ?_
  refine awp_seq ?_
  refine awp_seq ?_
  refine awp_region ?_
  refine sq_plain rfl rfl rfl (w_move rfl (ev_tmp rfl)) ?_
  refine sq_plain rfl rfl rfl (w_llen rfl Try.underlying60 (ev_tmp rfl)) ?_
  refine sq_plain rfl rfl rfl (w_move rfl ev_ci) ?_
  refine sq_nil ?_
  refine awp_block ?_
  refine awp_loop_i4 [(2, _), (15, _), (16, _)] [] (fun (i : Nat) (v : Value) (q : List TCell) (xs : List Value) => i ≤ w.length ∧ xs.length = q.length ∧ CellsOk q ∧ sizeL TCell.size q ≤ 1048576 + 2 * sizeL TWrite.size (w.take i) ∧ putAll l w t = putAll q (w.drop i) t) (fun (i : Nat) (v : Value) (q : List TCell) (xs : List Value) => [.arr v 153 2 (nrows TCell.ocs q xs)] ++ (nin TCell.ow q xs)) (fun (i : Nat) (v : Value) (q : List TCell) (xs : List Value) => [(8, AV.is v), (17, AV.int i)]) (fun (i : Nat) (v : Value) (q : List TCell) (xs : List Value) => w.length - i) (0) (x14.1) (l) (x14.2) ?_ (le_eq (by rw [List.append_nil]; rfl) ⟨rfl, rfl, rfl, rfl, rfl, trivial⟩) ?_
  · exact ⟨Nat.zero_le _, ok14, ho, by omega, rfl⟩
  intro i v q xs hinv
  have hlen := hinv.2.1
  refine awp_own (List.append_nil _) ?_
  refine awp_seq ?_
  refine awp_region ?_
  refine sq_plain rfl rfl rfl (w_lss rfl (ev_tmp rfl) (ev_tmp rfl)) ?_
  refine sq_nil ?_
  refine awp_seq ?_
  refine awp_cond (ev_tmp rfl) ?_ ?_
  · intro h18
    have k18 := of_decide_eq_true h18; try simp only [List.length_map] at k18
    have hlt : i < w.length := by omega
    obtain ⟨x, hx⟩ := get_some hlt
    have htk := size_take_le (f := TWrite.size) (l := w) i
    have hso : sizeL TCell.size q ≤ 4194304 := by omega
    have hol : q.length ≤ 4194304 := Nat.le_trans sizeL_len hso
    refine awp_skip ?_
    refine awp_seq ?_
    refine awp_block ?_
    refine awp_seq ?_
    refine awp_region ?_
    refine sq_plain rfl rfl rfl (w_idxm rfl Try.underlying60 Try.sizeOf65 (ev_tmp rfl) (ev_tmp rfl) hx (by first | omega | ((try simp only [List.length_map, List.length_take, List.length_cons, List.length_nil, chunks_len, szR] at *); omega) | (have hc2 := hc; simp only [Bool.and_eq_true, Bool.or_eq_true, Bool.or_eq_false_iff, Bool.and_eq_false_iff, Bool.not_eq_true', Bool.not_eq_false', decide_eq_true_eq, decide_eq_false_iff_not, beq_iff_eq, bne_iff_ne, List.length_map, List.length_take] at hc2; omega))) ?_
    refine sq_plain rfl rfl rfl (w_loadE rfl (ev_tmp rfl) Try.isAgg65 Try.sizeOf65) ?_
    refine sq_alloc rfl rfl rfl rfl Try.zeroValue65 rfl ?_
    intro b10
    refine sq_storeB0 0 rfl rfl rfl (ev_tmp rfl) (ev_tmp rfl) (as_agg _) rfl Try.sizeOf65 rfl ?_
    refine sq_nil ?_
    refine awp_seq ?_
    refine awp_seq ?_
    refine awp_region ?_
    refine sq_plain rfl rfl rfl (w_move rfl (ev_tmp rfl)) ?_
    refine sq_plain rfl rfl rfl (w_move rfl (ev_tmp rfl)) ?_
    refine sq_plain rfl rfl rfl (w_fldBn 0 rfl Try.underlying65 rfl Try.sizeOf9 (ev_tmp rfl) rfl) ?_
    refine sq_plain rfl rfl rfl (w_loadB1 0 rfl (ev_tmp rfl) rfl Try.isAgg9 rfl) ?_
    refine sq_plain rfl rfl rfl (w_callB rfl Try.call164 rfl (lastTime_spec q x.Key hinv.2.2.1 hso) (flat_ik _ _) (evlb_cons (evb_lt (ev_tmp rfl) (nin_lend TCell.lcM (by first | exact hlen | exact hlen.trans (marksN_len _ _).symm) 1 rfl (fun o ho => List.mem_of_mem_drop (i := 2) (show o ∈ nin TCell.ow q xs from by first | exact ho | exact List.mem_append_left _ ho | exact List.mem_append_right _ ho | exact List.mem_append_right _ (List.mem_append_left _ ho) | exact List.mem_append_right _ (List.mem_append_right _ ho))))) (evlb_cons (evb (ev_tmp rfl)) evlb_nil))) ?_
    refine sq_plain rfl rfl rfl (w_leq rfl (ev_tmp rfl) (ev_tmp rfl)) ?_
    refine sq_nil ?_
    refine awp_cond (ev_tmp rfl) ?_ ?_
    · intro h26
      have k26 := of_decide_eq_true h26; try simp only [List.length_map] at k26
      have he : putCells l w t = ([], false) := by unfold putCells; rw [put_stop hinv.2.2.2.2 hx k26]
      rw [he]
      refine awp_seq ?_
      refine awp_region ?_
      refine sq_plain rfl rfl rfl (w_assign rfl ev_cnils) ?_
      refine sq_plain rfl rfl rfl (w_assign rfl ev_cb) ?_
      refine sq_nil ?_
      refine awp_ret ?_
      refine retG_nil 153 2 ?_
      first | exact retG [0] ((Value.slice none 0 0), []) (rfl) rfl (by rfl) (resN rfl (by decide) (rv_cons (rv_tmp' rfl (by rfl)) (rv_cons (rv_tmp' rfl (by rfl)) rv_nil))) | exact retGT [0] 2 (nin TCell.ow q xs) [] ((Value.slice none 0 0), []) (rfl) rfl (show List.Perm (nin TCell.ow q xs) ((nin TCell.ow q xs) ++ []) from perm_nil) (by rfl) (resN rfl (by decide) (rv_cons (rv_tmp' rfl (by rfl)) (rv_cons (rv_tmp' rfl (by rfl)) rv_nil))) | exact retG [0] ((Value.slice none 0 0), xs) (hinv.2.1) rfl (by rfl) (resN rfl (by decide) (rv_cons (rv_tmp' rfl (by rfl)) (rv_cons (rv_tmp' rfl (by rfl)) rv_nil))) | exact retGT [0] 2 (nin TCell.ow q xs) [] ((Value.slice none 0 0), xs) (hinv.2.1) rfl (show List.Perm (nin TCell.ow q xs) ((nin TCell.ow q xs) ++ []) from perm_nil) (by rfl) (resN rfl (by decide) (rv_cons (rv_tmp' rfl (by rfl)) (rv_cons (rv_tmp' rfl (by rfl)) rv_nil)))
    · intro h26
      have k26 := of_decide_eq_false h26; try simp only [List.length_map] at k26
      refine awp_skip ?_
      refine awp_seq ?_
      refine awp_region ?_
      refine sq_plain rfl rfl rfl (w_move rfl (ev_tmp rfl)) ?_
      refine sq_plain rfl rfl rfl (w_fldBn 0 rfl Try.underlying65 rfl Try.sizeOf9 (ev_tmp rfl) rfl) ?_
      refine sq_plain rfl rfl rfl (w_loadB1 0 rfl (ev_tmp rfl) rfl Try.isAgg9 rfl) ?_
      refine sq_plain rfl rfl rfl (w_callB rfl Try.call234 rfl (findCell_spec q x.Key (by omega)) (flat_tup (flatl_cons (flat_ik _ _) (flatl_cons (flat_bool _) flatl_nil))) (evlb_cons (evb_lt (ev_tmp rfl) (nin_lend TCell.lcM (by first | exact hlen | exact hlen.trans (marksN_len _ _).symm) 1 rfl (fun o ho => List.mem_of_mem_drop (i := 2) (show o ∈ nin TCell.ow q xs from by first | exact ho | exact List.mem_append_left _ ho | exact List.mem_append_right _ ho | exact List.mem_append_right _ (List.mem_append_left _ ho) | exact List.mem_append_right _ (List.mem_append_right _ ho))))) (evlb_cons (evb (ev_tmp rfl)) evlb_nil))) ?_
      refine sq_plain rfl rfl rfl (w_move rfl (ev_tmp rfl)) ?_
      refine sq_plain rfl rfl rfl (w_extract rfl (ev_tmp rfl) rfl) ?_
      refine sq_plain rfl rfl rfl (w_extract rfl (ev_tmp rfl) rfl) ?_
      refine sq_plain rfl rfl rfl (w_assign rfl (ev_tmp rfl)) ?_
      refine sq_plain rfl rfl rfl (w_assign rfl (ev_tmp rfl)) ?_
      refine sq_nil ?_
      refine awp_seq ?_
      refine awp_seq ?_
      refine awp_region ?_
      refine sq_plain rfl rfl rfl (w_move rfl (ev_tmp rfl)) ?_
      refine sq_plain rfl rfl rfl (w_not rfl (ev_tmp rfl)) ?_
      refine sq_nil ?_
      refine awp_cond (ev_tmp rfl) ?_ ?_
      · intro h35
        have hn : cHas q x.Key = false := by simpa using h35
        have hpl : cPos q x.Key ≤ (nrows TCell.ocs q xs).length := by rw [nrows_len hlen]; exact cPos_le _ _
        have hA : ((nrows TCell.ocs q xs).take (cPos q x.Key)).length = cPos q x.Key := by rw [List.length_take]; omega
        obtain ⟨fx, hto⟩ : ∃ fx, RowsTo ((nrows TCell.ocs q xs).take (cPos q x.Key)) x.Key [TVer.cs ⟨t, x.Val, x.Gone⟩] ((nrows TCell.ocs q xs).drop (cPos q x.Key)) (nin TCell.ow q xs) (putC1 q x t) fx := ⟨_, by unfold putC1; rw [pos_new hinv.2.2.1.1 hn]; exact rowsTo_ins (cPos_le _ _) hlen _ _⟩
        refine awp_region ?_
        refine sq_plain rfl rfl rfl (w_move rfl (ev_tmp rfl)) ?_
        refine sq_plain rfl rfl rfl (w_move rfl (ev_tmp rfl)) ?_
        refine sq_plain rfl rfl rfl (w_fldBn 0 rfl Try.underlying65 rfl Try.sizeOf9 (ev_tmp rfl) rfl) ?_
        refine sq_plain rfl rfl rfl (w_loadB1 0 rfl (ev_tmp rfl) rfl Try.isAgg9 rfl) ?_
        refine sq_plain rfl rfl rfl (w_build (places := #[(0, 1), (1, 1)]) rfl Try.underlying153 Try.zeroValue153 (fun w => by kernel_rfl) rfl (bp_cons (ev_tmp rfl) (as_str _) bp_nil) rfl) ?_
        refine sq_bsliceO rfl rfl rfl rfl Try.underlying53 Try.sizeOf153 Try.zeroValue153 rfl rfl rfl rfl (bp_cons (ev_tmp rfl) (as_agg _) bp_nil) rfl rfl ?_
        intro v41
        refine sq_callG [2, 0] rfl rfl rfl rfl Try.call241 rfl (insertRows_own' _ _ (nrows TCell.ocs q xs) [AV.str x.Key, AV.nils] rfl nrows_two (cPos q x.Key) hpl (by rw [nrows_len hlen]; omega)) (evl_cons (ev_tmp rfl) (evl_cons (ev_tmp rfl) (evl_cons (ev_tmp rfl) evl_nil))) rfl ?_
        intro x42 ok42
        refine sq_nilown 155 3 ?_
        refine sq_plain rfl rfl rfl (w_assign rfl (ev_tmp rfl)) ?_
        refine sq_nil ?_
        refine AWP.le (le_pick [2, 1, 0] rfl) ?_
        refine awp_region_mix _ [(0, false), (1, false), (2, false), (3, false), (4, false), (5, false), (6, false), (7, false), (8, false), (9, false), (10, false), (11, false), (12, false), (13, false), (14, true)] (by kernel_rfl) (by kernel_rfl) rfl (invx_take 2) ?_
        refine bc_plain rfl rfl rfl (fun ext => w_move rfl (ev_tmp rfl)) ?_
        refine bc_plain rfl rfl rfl (fun ext => w_move rfl (ev_tmp rfl)) ?_
        refine bc_plain rfl rfl rfl (fun ext => w_move rfl (ev_tmp rfl)) ?_
        refine bc_plain rfl rfl rfl (fun ext => w_move rfl (ev_tmp rfl)) ?_
        refine bc_plain rfl rfl rfl (fun ext => w_aidx 1 rfl Try.underlying53 Try.sizeOf153 (ev_tmp rfl) rfl (ev_tmp rfl) (by omega) (by rw [List.length_append, List.length_cons]; omega)) ?_
        refine bc_plain rfl rfl rfl (fun ext => w_fldX 1 rfl Try.underlying153 rfl Try.sizeOf151 (ev_tmp rfl) rfl rfl (app_get hA)) ?_
        refine bc_plain rfl rfl rfl (fun ext => w_loadXf 1 rfl (ev_tmp rfl) rfl Try.isAgg151 (app_get hA) rfl) ?_
        refine bc_plain rfl rfl rfl (fun ext => w_move rfl (ev_tmp rfl)) ?_
        refine bc_plain rfl rfl rfl (fun ext => w_fldBn 1 rfl Try.underlying65 rfl Try.sizeOf9 (ev_tmp rfl) rfl) ?_
        refine bc_plain rfl rfl rfl (fun ext => w_loadB1 0 rfl (ev_tmp rfl) rfl Try.isAgg9 rfl) ?_
        refine bc_plain rfl rfl rfl (fun ext => w_fldBn 2 rfl Try.underlying65 rfl Try.sizeOf4 (ev_tmp rfl) rfl) ?_
        refine bc_plain rfl rfl rfl (fun ext => w_loadB1 0 rfl (ev_tmp rfl) rfl Try.isAgg4 rfl) ?_
        refine bc_plain rfl rfl rfl (fun ext => w_build (places := #[(0, 1), (1, 1), (2, 1)]) rfl Try.underlying155 Try.zeroValue155 (fun w => by kernel_rfl) rfl (bp_cons (ev_tmp rfl) (as_ik _ _) (bp_cons (ev_tmp rfl) (as_str _) (bp_cons (ev_tmp rfl) (as_bool _) bp_nil))) rfl) ?_
        refine bc_plain rfl rfl rfl (fun ext => w_bslice rfl Try.underlying151 Try.sizeOf155 Try.zeroValue155 rfl rfl rfl rfl (bp_cons (ev_tmp rfl) (as_agg _) bp_nil) rfl rfl) ?_
        refine bc_eff rfl rfl rfl (opE_append (by' := 32) 2 rfl Try.underlying151 Try.type155 rfl rfl rfl rfl rfl rfl (ev_tmp rfl) (ev_tmp rfl) rfl (by first | omega | ((try simp only [List.length_map, List.length_take, List.length_cons, List.length_nil, chunks_len, szR] at *); omega) | (have hc2 := hc; simp only [Bool.and_eq_true, Bool.or_eq_true, Bool.or_eq_false_iff, Bool.and_eq_false_iff, Bool.not_eq_true', Bool.not_eq_false', decide_eq_true_eq, decide_eq_false_iff_not, beq_iff_eq, bne_iff_ne, List.length_map, List.length_take] at hc2; omega))) (fun a _ => (by first | exact invx_mk rfl | exact invx_mk (List.append_assoc _ _ _) | exact invx_all)) ?_
        intro v57_2 _
        refine bc_nil ?_
        refine sq_plain rfl rfl rfl (w_aidx 1 rfl Try.underlying53 Try.sizeOf153 (ev_tmp rfl) rfl (ev_tmp rfl) (by omega) (by rw [List.length_append, List.length_cons]; omega)) ?_
        refine sq_plain rfl rfl rfl (w_fldX 1 rfl Try.underlying153 rfl Try.sizeOf151 (ev_tmp rfl) rfl rfl (app_get hA)) ?_
        refine sq_fact 2 rfl fun one_v57_2 => ?_
        refine sq_storeXA 1 rfl rfl rfl (ev_tmp rfl) (ev_tmp rfl) (as_is one_v57_2) rfl Try.sizeOf151 hA rfl ?_
        refine sq_nil ?_
        refine AWP.le (le_pick [0, 0, 0] rfl) ?_
        refine AWP.le (le_tail 2 (t := nin TCell.ow (putC1 q x t) (fx v57_2)) ((hto v57_2).2.2)) ?_
        refine AWP.le (le_pick [0] rfl) ?_
        refine awp_region ?_
        refine sq_plain rfl rfl rfl (w_addi rfl (ev_tmp rfl) ev_ci (by first | omega | ((try simp only [List.length_map, List.length_take, List.length_cons, List.length_nil, chunks_len, szR] at *); omega) | (have hc2 := hc; simp only [Bool.and_eq_true, Bool.or_eq_true, Bool.or_eq_false_iff, Bool.and_eq_false_iff, Bool.not_eq_true', Bool.not_eq_false', decide_eq_true_eq, decide_eq_false_iff_not, beq_iff_eq, bne_iff_ne, List.length_map, List.length_take] at hc2; omega))) ?_
        refine sq_plain rfl rfl rfl (w_move rfl (ev_tmp rfl)) ?_
        refine sq_nil ?_
        refine round_end4 i v q xs (i + 1) (x42) (putC1 q x t) (fx v57_2) ?_ ?_ (le_dropeq 1 (Eq.trans (by exact congrArg (fun z => Own.arr _ _ _ z :: _) (hto v57_2).2.1) (List.append_nil _).symm) ⟨rfl, rfl, rfl, rfl, rfl, trivial⟩)
        · exact ⟨by omega, (hto _).1, cellsOk_ins hinv.2.2.1 _ _, by have h8 := putC1_size q x t; have h9 := size_take_succ (f := TWrite.size) hx; omega, put_step hinv.2.2.2.2 hx k26⟩
        · omega
      · intro h35
        have hn : cHas q x.Key = true := by simpa using h35
        obtain ⟨c, hc, hck, hins⟩ := pos_has hinv.2.2.1.1 hn ⟨t, x.Val, x.Gone⟩
        have hpo := (List.getElem?_eq_some_iff.1 hc).1
        obtain ⟨y, hy⟩ := get_some (show cPos q x.Key < xs.length by omega)
        have hA := nrows_tlen (ocs := TCell.ocs) hc hy
        obtain ⟨fx, hto⟩ : ∃ fx, RowsTo (nrows TCell.ocs (q.take (cPos q x.Key)) (xs.take (cPos q x.Key))) c.Key (c.Vers.map TVer.cs ++ [TVer.cs ⟨t, x.Val, x.Gone⟩]) (nrows TCell.ocs (q.drop (cPos q x.Key + 1)) (xs.drop (cPos q x.Key + 1))) (nin TCell.ow (q.eraseIdx (cPos q x.Key)) (xs.eraseIdx (cPos q x.Key))) (putC1 q x t) fx := ⟨_, by have h7 := rowsTo_set hc hy hlen ⟨t, x.Val, x.Gone⟩; unfold putC1; rw [hins, ← hck]; rw [hck] at h7 ⊢; exact h7⟩
        have hcs := cell_len (Nat.le_trans (sizeL_get hc) hso)
        rw [nrows_split hc hy]
        refine AWP.le (le_tail 2 (t := (TCell.ow c y) ++ (nin TCell.ow (q.eraseIdx (cPos q x.Key)) (xs.eraseIdx (cPos q x.Key)))) (nin_get (ow := TCell.ow) hc hy)) ?_
        refine awp_skip ?_
        refine AWP.le (le_pick [0, 0, 0] rfl) ?_
        refine awp_region_mix _ [(0, false), (1, false), (2, false), (3, false), (4, false), (5, false), (6, false), (7, false), (8, false), (9, false), (10, false), (11, false), (12, false), (13, false), (14, true)] (by kernel_rfl) (by kernel_rfl) rfl (invx_take 2) ?_
        refine bc_plain rfl rfl rfl (fun ext => w_move rfl (ev_tmp rfl)) ?_
        refine bc_plain rfl rfl rfl (fun ext => w_move rfl (ev_tmp rfl)) ?_
        refine bc_plain rfl rfl rfl (fun ext => w_move rfl (ev_tmp rfl)) ?_
        refine bc_plain rfl rfl rfl (fun ext => w_move rfl (ev_tmp rfl)) ?_
        refine bc_plain rfl rfl rfl (fun ext => w_aidx 1 rfl Try.underlying53 Try.sizeOf153 (ev_tmp rfl) rfl (ev_tmp rfl) (by omega) (by rw [List.length_append, List.length_cons]; omega)) ?_
        refine bc_plain rfl rfl rfl (fun ext => w_fldX 1 rfl Try.underlying153 rfl Try.sizeOf151 (ev_tmp rfl) rfl rfl (app_get hA)) ?_
        refine bc_plain rfl rfl rfl (fun ext => w_loadXf 1 rfl (ev_tmp rfl) rfl Try.isAgg151 (app_get hA) rfl) ?_
        refine bc_plain rfl rfl rfl (fun ext => w_move rfl (ev_tmp rfl)) ?_
        refine bc_plain rfl rfl rfl (fun ext => w_fldBn 1 rfl Try.underlying65 rfl Try.sizeOf9 (ev_tmp rfl) rfl) ?_
        refine bc_plain rfl rfl rfl (fun ext => w_loadB1 0 rfl (ev_tmp rfl) rfl Try.isAgg9 rfl) ?_
        refine bc_plain rfl rfl rfl (fun ext => w_fldBn 2 rfl Try.underlying65 rfl Try.sizeOf4 (ev_tmp rfl) rfl) ?_
        refine bc_plain rfl rfl rfl (fun ext => w_loadB1 0 rfl (ev_tmp rfl) rfl Try.isAgg4 rfl) ?_
        refine bc_plain rfl rfl rfl (fun ext => w_build (places := #[(0, 1), (1, 1), (2, 1)]) rfl Try.underlying155 Try.zeroValue155 (fun w => by kernel_rfl) rfl (bp_cons (ev_tmp rfl) (as_ik _ _) (bp_cons (ev_tmp rfl) (as_str _) (bp_cons (ev_tmp rfl) (as_bool _) bp_nil))) rfl) ?_
        refine bc_plain rfl rfl rfl (fun ext => w_bslice rfl Try.underlying151 Try.sizeOf155 Try.zeroValue155 rfl rfl rfl rfl (bp_cons (ev_tmp rfl) (as_agg _) bp_nil) rfl rfl) ?_
        refine bc_eff rfl rfl rfl (opE_append (by' := 32) 2 rfl Try.underlying151 Try.type155 rfl rfl rfl rfl rfl rfl (ev_tmp rfl) (ev_tmp rfl) rfl (by first | omega | ((try simp only [List.length_map, List.length_take, List.length_cons, List.length_nil, chunks_len, szR] at *); omega) | (have hc2 := hc; simp only [Bool.and_eq_true, Bool.or_eq_true, Bool.or_eq_false_iff, Bool.and_eq_false_iff, Bool.not_eq_true', Bool.not_eq_false', decide_eq_true_eq, decide_eq_false_iff_not, beq_iff_eq, bne_iff_ne, List.length_map, List.length_take] at hc2; omega))) (fun a _ => (by first | exact invx_mk rfl | exact invx_mk (List.append_assoc _ _ _) | exact invx_all)) ?_
        intro v57_3 _
        refine bc_nil ?_
        refine sq_plain rfl rfl rfl (w_aidx 1 rfl Try.underlying53 Try.sizeOf153 (ev_tmp rfl) rfl (ev_tmp rfl) (by omega) (by rw [List.length_append, List.length_cons]; omega)) ?_
        refine sq_plain rfl rfl rfl (w_fldX 1 rfl Try.underlying153 rfl Try.sizeOf151 (ev_tmp rfl) rfl rfl (app_get hA)) ?_
        refine sq_fact 2 rfl fun one_v57_3 => ?_
        refine sq_storeXA 1 rfl rfl rfl (ev_tmp rfl) (ev_tmp rfl) (as_is one_v57_3) rfl Try.sizeOf151 hA rfl ?_
        refine sq_nil ?_
        refine AWP.le (le_pick [0, 0, 0] rfl) ?_
        refine AWP.le (le_tail 2 (t := nin TCell.ow (putC1 q x t) (fx v57_3)) ((hto v57_3).2.2)) ?_
        refine AWP.le (le_pick [0] rfl) ?_
        refine awp_region ?_
        refine sq_plain rfl rfl rfl (w_addi rfl (ev_tmp rfl) ev_ci (by first | omega | ((try simp only [List.length_map, List.length_take, List.length_cons, List.length_nil, chunks_len, szR] at *); omega) | (have hc2 := hc; simp only [Bool.and_eq_true, Bool.or_eq_true, Bool.or_eq_false_iff, Bool.and_eq_false_iff, Bool.not_eq_true', Bool.not_eq_false', decide_eq_true_eq, decide_eq_false_iff_not, beq_iff_eq, bne_iff_ne, List.length_map, List.length_take] at hc2; omega))) ?_
        refine sq_plain rfl rfl rfl (w_move rfl (ev_tmp rfl)) ?_
        refine sq_nil ?_
        refine round_end4 i v q xs (i + 1) (v) (putC1 q x t) (fx v57_3) ?_ ?_ (le_dropeq 1 (Eq.trans (by exact congrArg (fun z => Own.arr _ _ _ z :: _) (hto v57_3).2.1) (List.append_nil _).symm) ⟨rfl, rfl, rfl, rfl, rfl, trivial⟩)
        · exact ⟨by omega, (hto _).1, cellsOk_ins hinv.2.2.1 _ _, by have h8 := putC1_size q x t; have h9 := size_take_succ (f := TWrite.size) hx; omega, put_step hinv.2.2.2.2 hx k26⟩
        · omega
  · intro h18
    have k18 := of_decide_eq_false h18; try simp only [List.length_map] at k18
    have hge : w.length ≤ i := by omega
    have hpe := put_end hinv.2.2.2.2 hge
    have htk := size_take_le (f := TWrite.size) (l := w) i
    have hso : sizeL TCell.size q ≤ 4194304 := by omega
    refine awp_exit ?_
    refine awp_seq ?_
    refine awp_seq ?_
    refine awp_region ?_
    refine sq_plain rfl rfl rfl (w_move rfl (ev_tmp rfl)) ?_
    refine sq_plain rfl rfl rfl (w_callB rfl Try.call49 rfl (goodCells_spec q hso) (flat_bool _) (evlb_cons (evb_lt (ev_tmp rfl) (nin_lend TCell.lcM (by first | exact hlen | exact hlen.trans (marksN_len _ _).symm) 0 rfl (fun o ho => List.mem_of_mem_drop (i := 1) (show o ∈ nin TCell.ow q xs from by first | exact ho | exact List.mem_append_left _ ho | exact List.mem_append_right _ ho | exact List.mem_append_right _ (List.mem_append_left _ ho) | exact List.mem_append_right _ (List.mem_append_right _ ho))))) evlb_nil)) ?_
    refine sq_plain rfl rfl rfl (w_not rfl (ev_tmp rfl)) ?_
    refine sq_nil ?_
    refine awp_cond (ev_tmp rfl) ?_ ?_
    · intro h63
      have he : putCells l w t = ([], false) := by unfold putCells; rw [hpe]; simp only; rw [if_pos h63]
      rw [he]
      refine awp_seq ?_
      refine awp_region ?_
      refine sq_plain rfl rfl rfl (w_assign rfl ev_cnils) ?_
      refine sq_plain rfl rfl rfl (w_assign rfl ev_cb) ?_
      refine sq_nil ?_
      refine awp_ret ?_
      refine retG_nil 153 2 ?_
      first | exact retG [0] ((Value.slice none 0 0), []) (rfl) rfl (by rfl) (resN rfl (by decide) (rv_cons (rv_tmp' rfl (by rfl)) (rv_cons (rv_tmp' rfl (by rfl)) rv_nil))) | exact retGT [0] 1 (nin TCell.ow q xs) [] ((Value.slice none 0 0), []) (rfl) rfl (show List.Perm (nin TCell.ow q xs) ((nin TCell.ow q xs) ++ []) from perm_nil) (by rfl) (resN rfl (by decide) (rv_cons (rv_tmp' rfl (by rfl)) (rv_cons (rv_tmp' rfl (by rfl)) rv_nil))) | exact retG [0] ((Value.slice none 0 0), xs) (hinv.2.1) rfl (by rfl) (resN rfl (by decide) (rv_cons (rv_tmp' rfl (by rfl)) (rv_cons (rv_tmp' rfl (by rfl)) rv_nil))) | exact retGT [0] 1 (nin TCell.ow q xs) [] ((Value.slice none 0 0), xs) (hinv.2.1) rfl (show List.Perm (nin TCell.ow q xs) ((nin TCell.ow q xs) ++ []) from perm_nil) (by rfl) (resN rfl (by decide) (rv_cons (rv_tmp' rfl (by rfl)) (rv_cons (rv_tmp' rfl (by rfl)) rv_nil)))
    · intro h63
      have he : putCells l w t = (q, true) := by unfold putCells; rw [hpe]; simp only; rw [if_neg (by rw [h63]; decide)]
      rw [he]
      refine awp_skip ?_
      refine awp_seq ?_
      refine awp_region ?_
      refine sq_plain rfl rfl rfl (w_move rfl (ev_tmp rfl)) ?_
      refine sq_plain rfl rfl rfl (w_assign rfl (ev_tmp rfl)) ?_
      refine sq_plain rfl rfl rfl (w_assign rfl ev_cb) ?_
      refine sq_nil ?_
      refine awp_ret ?_
      first | exact retG [0] (v, []) (rfl) rfl (by rfl) (resN rfl (by decide) (rv_cons (rv_tmp' rfl (by rfl)) (rv_cons (rv_tmp' rfl (by rfl)) rv_nil))) | exact retGT [0] 0 (nin TCell.ow q xs) [] (v, []) (rfl) rfl (show List.Perm (nin TCell.ow q xs) ((nin TCell.ow q xs) ++ []) from perm_nil) (by rfl) (resN rfl (by decide) (rv_cons (rv_tmp' rfl (by rfl)) (rv_cons (rv_tmp' rfl (by rfl)) rv_nil))) | exact retGT [0] 0 (nin TCell.ow q xs) [] (v, xs) (hinv.2.1) rfl (show List.Perm (nin TCell.ow q xs) ((nin TCell.ow q xs) ++ []) from perm_nil) (by rfl) (resN rfl (by decide) (rv_cons (rv_tmp' rfl (by rfl)) (rv_cons (rv_tmp' rfl (by rfl)) rv_nil)))
end Go.Proofs.Yteliahajeokciaa

set_option linter.unusedVariables false
set_option linter.unusedSimpArgs false
set_option maxRecDepth 100000
set_option maxHeartbeats 4000000
namespace Go.Proofs.Yteliahajeokciaa
open Go Go.AV Go.M
attribute [local irreducible] OpW OpA OpS AWP FSpec ESpec GSpec OpE RetOk RetOkG RvDen Le Ev GuardIs SrcIs
theorem l3Put_own (l : List TCell) (w : List TWrite) (t : Int) (ho : CellsOk l) (hs : sizeL TCell.size l ≤ 1048576) (hw : sizeL TWrite.size w ≤ 1048576) (ht1 : 1 ≤ t) : GSpec Try.prog 159 [AV.list 2 (l.map TCell.cs), AV.list 3 (w.map TWrite.cs), AV.int t] [] (fun x : Value × List Value => x.2.length = (putP l w t).1.length) (fun x => .arr x.1 153 2 (nrows TCell.ocs (putP l w t).1 x.2) :: nin TCell.ow (putP l w t).1 x.2) (fun x => AV.tup [AV.is x.1, AV.bool (putP l w t).2]) := by
  have hwl : w.length ≤ 1048576 := Nat.le_trans sizeL_len hw
  refine gspec_of_awp Try.func159 rfl Try.ntmps159 rfl ?_
  refine awp_seq ?_
  refine awp_region ?_
  refine sq_plain rfl rfl rfl (w_assign rfl ev_cnils) ?_
  refine sq_plain rfl rfl rfl (w_assign rfl ev_cb) ?_
  refine sq_nil ?_
  refine awp_seq ?_
  refine awp_region ?_
  refine sq_plain rfl rfl rfl (w_move rfl (ev_tmp rfl)) ?_
  refine sq_callGT [] 0 1 ([]) ([]) (fun zz => nin TCell.ow l zz.2) rfl rfl rfl rfl Try.call169 rfl rfl (show List.Perm ([]) (([]) ++ ([])) from List.Perm.refl _) (l3Own_own l (by omega)) (evl_cons (ev_tmp rfl) evl_nil) (fun a => perm_lin) ?_
  intro x15 ok15
  refine sq_plain rfl rfl rfl (w_assign rfl (ev_tmp rfl)) ?_
  refine sq_nil ?_
  refine awp_seq ?_
  refine awp_seq ?_
  refine awp_region ?_
  refine sq_plain rfl rfl rfl (w_move rfl (ev_tmp rfl)) ?_
  refine sq_plain rfl rfl rfl (w_llen rfl Try.underlying60 (ev_tmp rfl)) ?_
  refine sq_plain rfl rfl rfl (w_move rfl ev_ci) ?_
  refine sq_nil ?_
  refine awp_block ?_
  refine awp_loop_i4 [(2, _), (16, _), (17, _)] [] (fun (i : Nat) (v : Value) (q : List TCell) (xs : List Value) => i ≤ w.length ∧ xs.length = q.length ∧ CellsOk q ∧ sizeL TCell.size q ≤ 1048576 + 2 * sizeL TWrite.size (w.take i) ∧ putAll l w t = putAll q (w.drop i) t) (fun (i : Nat) (v : Value) (q : List TCell) (xs : List Value) => [.arr v 153 2 (nrows TCell.ocs q xs)] ++ (nin TCell.ow q xs)) (fun (i : Nat) (v : Value) (q : List TCell) (xs : List Value) => [(8, AV.is v), (18, AV.int i)]) (fun (i : Nat) (v : Value) (q : List TCell) (xs : List Value) => w.length - i) (0) (x15.1) (l) (x15.2) ?_ (le_eq (by rw [List.append_nil]; rfl) ⟨rfl, rfl, rfl, rfl, rfl, trivial⟩) ?_
  · exact ⟨Nat.zero_le _, ok15, ho, by omega, rfl⟩
  intro i v q xs hinv
  have hlen := hinv.2.1
  have hinvo := hinv
  have hrl : (nrows TCell.ocs q xs).length = q.length := nrows_len hlen
  refine awp_own (List.append_nil _) ?_
  refine awp_seq ?_
  refine awp_region ?_
  refine sq_plain rfl rfl rfl (w_lss rfl (ev_tmp rfl) (ev_tmp rfl)) ?_
  refine sq_nil ?_
  refine awp_seq ?_
  refine awp_cond (ev_tmp rfl) ?_ ?_
  · intro h19
    have k19 := of_decide_eq_true h19; try simp only [List.length_map] at k19
    have hlt : i < w.length := by omega
    obtain ⟨x, hx⟩ := get_some hlt
    have htk := size_take_le (f := TWrite.size) (l := w) i
    have hso : sizeL TCell.size q ≤ 4194304 := by omega
    have hql : q.length ≤ 4194304 := Nat.le_trans sizeL_len hso
    refine awp_skip ?_
    refine awp_seq ?_
    refine awp_block ?_
    refine awp_seq ?_
    refine awp_region ?_
    refine sq_plain rfl rfl rfl (w_idxm rfl Try.underlying60 Try.sizeOf65 (ev_tmp rfl) (ev_tmp rfl) hx (by first | omega | ((try simp only [List.length_map, List.length_take, List.length_cons, List.length_nil, chunks_len, szR] at *); omega) | (have hc2 := hc; simp only [Bool.and_eq_true, Bool.or_eq_true, Bool.or_eq_false_iff, Bool.and_eq_false_iff, Bool.not_eq_true', Bool.not_eq_false', decide_eq_true_eq, decide_eq_false_iff_not, beq_iff_eq, bne_iff_ne, List.length_map, List.length_take] at hc2; omega))) ?_
    refine sq_plain rfl rfl rfl (w_loadE rfl (ev_tmp rfl) Try.isAgg65 Try.sizeOf65) ?_
    refine sq_alloc rfl rfl rfl rfl Try.zeroValue65 rfl ?_
    intro b10
    refine sq_storeB0 0 rfl rfl rfl (ev_tmp rfl) (ev_tmp rfl) (as_agg _) rfl Try.sizeOf65 rfl ?_
    refine sq_nil ?_
    refine awp_seq ?_
    refine awp_region ?_
    refine sq_plain rfl rfl rfl (w_move rfl (ev_tmp rfl)) ?_
    refine sq_plain rfl rfl rfl (w_fldBn 1 rfl Try.underlying65 rfl Try.sizeOf9 (ev_tmp rfl) rfl) ?_
    refine sq_plain rfl rfl rfl (w_loadB1 0 rfl (ev_tmp rfl) rfl Try.isAgg9 rfl) ?_
    refine sq_plain rfl rfl rfl (w_fldBn 2 rfl Try.underlying65 rfl Try.sizeOf4 (ev_tmp rfl) rfl) ?_
    refine sq_plain rfl rfl rfl (w_loadB1 0 rfl (ev_tmp rfl) rfl Try.isAgg4 rfl) ?_
    refine sq_plain rfl rfl rfl (w_build (places := #[(0, 1), (1, 1), (2, 1)]) rfl Try.underlying155 Try.zeroValue155 (fun w => by kernel_rfl) rfl (bp_cons (ev_tmp rfl) (as_ik _ _) (bp_cons (ev_tmp rfl) (as_str _) (bp_cons (ev_tmp rfl) (as_bool _) bp_nil))) rfl) ?_
    refine sq_alloc rfl rfl rfl rfl Try.zeroValue155 rfl ?_
    intro b11
    refine sq_storeB0 0 rfl rfl rfl (ev_tmp rfl) (ev_tmp rfl) (as_agg _) rfl Try.sizeOf155 rfl ?_
    refine sq_nil ?_
    refine awp_seq ?_
    refine awp_region ?_
    refine sq_plain rfl rfl rfl (w_move rfl (ev_tmp rfl)) ?_
    refine sq_plain rfl rfl rfl (w_alen 2 rfl Try.underlying53 (ev_tmp rfl) rfl) ?_
    refine sq_plain rfl rfl rfl (w_assign rfl (ev_tmp rfl)) ?_
    refine sq_nil ?_
    refine awp_seq ?_
    refine awp_block ?_
    refine awp_loop_i [(2, _), (8, _), (10, _), (11, _), (16, _), (17, _), (18, _), (19, _), (20, _), (21, _), (22, _), (23, _), (24, _), (25, _), (26, _), (27, _), (28, _), (29, _)] _ (fun (j : Nat) => j ≤ q.length ∧ ∀ (a : Nat) (c : TCell), j ≤ a → q[a]? = some c → Op.bytesLess x.Key c.Key = true) (fun (j : Nat) => []) (fun (j : Nat) => [(12, AV.int j)]) (fun (j : Nat) => j) (q.length) ?_ (le_env ⟨congrArg (fun z : Nat => some (AV.int z)) hrl, rfl, rfl, rfl, rfl, rfl, rfl, rfl, rfl, rfl, rfl, rfl, rfl, rfl, rfl, rfl, rfl, rfl, rfl, trivial⟩) ?_
    · exact ⟨Nat.le_refl _, fun a c ha hc => by have := (List.getElem?_eq_some_iff.1 hc).1; omega⟩
    intro j hinv
    obtain ⟨c, hc0⟩ := get_any q (j - 1)
    obtain ⟨y, hy0⟩ : ∃ y, j - 1 < xs.length → xs[j - 1]? = some y := ⟨xs[j - 1]?.getD (.int .i64 0), fun h => by rw [List.getElem?_eq_getElem h]; rfl⟩
    have hj1 : 0 < j → ((j : Int) - 1).toNat = j - 1 := fun _ => by omega
    have hrow0 : 0 < j → (nrows TCell.ocs q xs)[((j : Int) - 1).toNat]? = some (TCell.ocs c y) := fun h => by rw [hj1 h]; exact nrows_get (hc0 (by omega)) (hy0 (by omega))
    refine awp_seq ?_
    refine awp_seq ?_
    refine awp_region_any (by kernel_rfl) (by kernel_rfl) rfl ?_
    refine ch_plain rfl rfl (w_move rfl (ev_tmp rfl)) ?_
    refine ch_plain rfl rfl (w_gtr rfl (ev_tmp rfl) ev_ci) ?_
    refine ch_plain rfl rfl (w_move rfl (ev_tmp rfl)) ?_
    refine ch_grd rfl (guard_t rfl rfl rfl) (fun hc => w_move rfl (ev_tmp rfl)) ?_
    refine ch_grd rfl (guard_t rfl rfl rfl) (fun hc => w_move rfl (ev_tmp rfl)) ?_
    refine ch_grd rfl (guard_t rfl rfl rfl) (fun hc => w_subi rfl (ev_whn rfl hc) ev_ci (by first | omega | ((try simp only [List.length_map, List.length_take, List.length_cons, List.length_nil, chunks_len, szR] at *); omega) | (have hc2 := hc; simp only [Bool.and_eq_true, Bool.or_eq_true, Bool.or_eq_false_iff, Bool.and_eq_false_iff, Bool.not_eq_true', Bool.not_eq_false', decide_eq_true_eq, decide_eq_false_iff_not, beq_iff_eq, bne_iff_ne, List.length_map, List.length_take] at hc2; omega))) ?_
    refine ch_grd rfl (guard_t rfl rfl rfl) (fun hc => w_aidx 2 rfl Try.underlying53 Try.sizeOf153 (ev_whn rfl hc) rfl (ev_whn rfl hc) (by first | omega | ((try simp only [List.length_map, List.length_take, List.length_cons, List.length_nil, chunks_len, szR] at *); omega) | (have hc2 := hc; simp only [Bool.and_eq_true, Bool.or_eq_true, Bool.or_eq_false_iff, Bool.and_eq_false_iff, Bool.not_eq_true', Bool.not_eq_false', decide_eq_true_eq, decide_eq_false_iff_not, beq_iff_eq, bne_iff_ne, List.length_map, List.length_take] at hc2; omega)) (by first | omega | ((try simp only [List.length_map, List.length_take, List.length_cons, List.length_nil, chunks_len, szR] at *); omega) | (have hc2 := hc; simp only [Bool.and_eq_true, Bool.or_eq_true, Bool.or_eq_false_iff, Bool.and_eq_false_iff, Bool.not_eq_true', Bool.not_eq_false', decide_eq_true_eq, decide_eq_false_iff_not, beq_iff_eq, bne_iff_ne, List.length_map, List.length_take] at hc2; omega))) ?_
    refine ch_grd rfl (guard_t rfl rfl rfl) (fun hc => w_fldX 2 rfl Try.underlying153 rfl Try.sizeOf9 (ev_whn rfl hc) rfl rfl (hrow0 (by first | omega | ((try simp only [List.length_map, List.length_take, List.length_cons, List.length_nil, chunks_len, szR] at *); omega) | (have hc2 := hc; simp only [Bool.and_eq_true, Bool.or_eq_true, Bool.or_eq_false_iff, Bool.and_eq_false_iff, Bool.not_eq_true', Bool.not_eq_false', decide_eq_true_eq, decide_eq_false_iff_not, beq_iff_eq, bne_iff_ne, List.length_map, List.length_take] at hc2; omega)))) ?_
    refine ch_grd rfl (guard_t rfl rfl rfl) (fun hc => w_loadXf 2 rfl (ev_whn rfl hc) rfl Try.isAgg9 (hrow0 (by first | omega | ((try simp only [List.length_map, List.length_take, List.length_cons, List.length_nil, chunks_len, szR] at *); omega) | (have hc2 := hc; simp only [Bool.and_eq_true, Bool.or_eq_true, Bool.or_eq_false_iff, Bool.and_eq_false_iff, Bool.not_eq_true', Bool.not_eq_false', decide_eq_true_eq, decide_eq_false_iff_not, beq_iff_eq, bne_iff_ne, List.length_map, List.length_take] at hc2; omega))) rfl) ?_
    refine ch_grd rfl (guard_t rfl rfl rfl) (fun hc => w_fldBn 0 rfl Try.underlying65 rfl Try.sizeOf9 (ev_tmp rfl) rfl) ?_
    refine ch_grd rfl (guard_t rfl rfl rfl) (fun hc => w_loadB1 1 rfl (ev_whn rfl hc) rfl Try.isAgg9 rfl) ?_
    refine ch_grd rfl (guard_t rfl rfl rfl) (fun hc => w_sgtr rfl (ev_whn rfl hc) (ev_whn rfl hc)) ?_
    refine ch_plain rfl rfl (w_and rfl (ev_tmp rfl) (evif_w rfl)) ?_
    refine ch_nil ?_
    refine awp_cond (ev_tmp rfl) ?_ ?_
    · intro h42
      have hgt : 0 < j ∧ Op.bytesLess x.Key c.Key = true := by rw [bytesLess_tri]; simpa using h42
      refine awp_skip ?_
      refine awp_block ?_
      refine awp_region ?_
      refine sq_plain rfl rfl rfl (w_move rfl (ev_tmp rfl)) ?_
      refine sq_plain rfl rfl rfl (w_subi rfl (ev_tmp rfl) ev_ci (by first | omega | ((try simp only [List.length_map, List.length_take, List.length_cons, List.length_nil, chunks_len, szR] at *); omega) | (have hc2 := hc; simp only [Bool.and_eq_true, Bool.or_eq_true, Bool.or_eq_false_iff, Bool.and_eq_false_iff, Bool.not_eq_true', Bool.not_eq_false', decide_eq_true_eq, decide_eq_false_iff_not, beq_iff_eq, bne_iff_ne, List.length_map, List.length_take] at hc2; omega))) ?_
      refine sq_plain rfl rfl rfl (w_assign rfl (ev_tmp rfl)) ?_
      refine sq_nil ?_
      refine blockN ?_
      refine round_end j (j - 1) ?_ ?_ (le_env ⟨congrArg (fun z : Int => some (AV.int z)) (by omega), rfl, rfl, rfl, rfl, rfl, rfl, rfl, rfl, rfl, rfl, rfl, rfl, rfl, rfl, rfl, rfl, rfl, rfl, trivial⟩)
      · exact ⟨by omega, fun a c' ha hc' => if h9 : j ≤ a then hinv.2 a c' h9 hc' else (by have e : a = j - 1 := (by omega); subst e; rw [hc0 (by omega)] at hc'; injection hc' with hc'; subst hc'; exact hgt.2)⟩
      · omega
    · intro h42
      have hng : 0 < j → Op.bytesLess x.Key c.Key = false := fun h => by rw [bytesLess_tri]; simpa [h] using h42
      refine awp_exit ?_
      refine awp_seq ?_
      refine awp_seq ?_
      refine awp_region_any (by kernel_rfl) (by kernel_rfl) rfl ?_
      refine ch_plain rfl rfl (w_move rfl (ev_tmp rfl)) ?_
      refine ch_plain rfl rfl (w_gtr rfl (ev_tmp rfl) ev_ci) ?_
      refine ch_plain rfl rfl (w_move rfl (ev_tmp rfl)) ?_
      refine ch_grd rfl (guard_t rfl rfl rfl) (fun hc => w_move rfl (ev_tmp rfl)) ?_
      refine ch_grd rfl (guard_t rfl rfl rfl) (fun hc => w_move rfl (ev_tmp rfl)) ?_
      refine ch_grd rfl (guard_t rfl rfl rfl) (fun hc => w_subi rfl (ev_whn rfl hc) ev_ci (by first | omega | ((try simp only [List.length_map, List.length_take, List.length_cons, List.length_nil, chunks_len, szR] at *); omega) | (have hc2 := hc; simp only [Bool.and_eq_true, Bool.or_eq_true, Bool.or_eq_false_iff, Bool.and_eq_false_iff, Bool.not_eq_true', Bool.not_eq_false', decide_eq_true_eq, decide_eq_false_iff_not, beq_iff_eq, bne_iff_ne, List.length_map, List.length_take] at hc2; omega))) ?_
      refine ch_grd rfl (guard_t rfl rfl rfl) (fun hc => w_aidx 2 rfl Try.underlying53 Try.sizeOf153 (ev_whn rfl hc) rfl (ev_whn rfl hc) (by first | omega | ((try simp only [List.length_map, List.length_take, List.length_cons, List.length_nil, chunks_len, szR] at *); omega) | (have hc2 := hc; simp only [Bool.and_eq_true, Bool.or_eq_true, Bool.or_eq_false_iff, Bool.and_eq_false_iff, Bool.not_eq_true', Bool.not_eq_false', decide_eq_true_eq, decide_eq_false_iff_not, beq_iff_eq, bne_iff_ne, List.length_map, List.length_take] at hc2; omega)) (by first | omega | ((try simp only [List.length_map, List.length_take, List.length_cons, List.length_nil, chunks_len, szR] at *); omega) | (have hc2 := hc; simp only [Bool.and_eq_true, Bool.or_eq_true, Bool.or_eq_false_iff, Bool.and_eq_false_iff, Bool.not_eq_true', Bool.not_eq_false', decide_eq_true_eq, decide_eq_false_iff_not, beq_iff_eq, bne_iff_ne, List.length_map, List.length_take] at hc2; omega))) ?_
      refine ch_grd rfl (guard_t rfl rfl rfl) (fun hc => w_fldX 2 rfl Try.underlying153 rfl Try.sizeOf9 (ev_whn rfl hc) rfl rfl (hrow0 (by first | omega | ((try simp only [List.length_map, List.length_take, List.length_cons, List.length_nil, chunks_len, szR] at *); omega) | (have hc2 := hc; simp only [Bool.and_eq_true, Bool.or_eq_true, Bool.or_eq_false_iff, Bool.and_eq_false_iff, Bool.not_eq_true', Bool.not_eq_false', decide_eq_true_eq, decide_eq_false_iff_not, beq_iff_eq, bne_iff_ne, List.length_map, List.length_take] at hc2; omega)))) ?_
      refine ch_grd rfl (guard_t rfl rfl rfl) (fun hc => w_loadXf 2 rfl (ev_whn rfl hc) rfl Try.isAgg9 (hrow0 (by first | omega | ((try simp only [List.length_map, List.length_take, List.length_cons, List.length_nil, chunks_len, szR] at *); omega) | (have hc2 := hc; simp only [Bool.and_eq_true, Bool.or_eq_true, Bool.or_eq_false_iff, Bool.and_eq_false_iff, Bool.not_eq_true', Bool.not_eq_false', decide_eq_true_eq, decide_eq_false_iff_not, beq_iff_eq, bne_iff_ne, List.length_map, List.length_take] at hc2; omega))) rfl) ?_
      refine ch_grd rfl (guard_t rfl rfl rfl) (fun hc => w_fldBn 0 rfl Try.underlying65 rfl Try.sizeOf9 (ev_tmp rfl) rfl) ?_
      refine ch_grd rfl (guard_t rfl rfl rfl) (fun hc => w_loadB1 1 rfl (ev_whn rfl hc) rfl Try.isAgg9 rfl) ?_
      refine ch_grd rfl (guard_t rfl rfl rfl) (fun hc => w_seql rfl (ev_whn rfl hc) (ev_whn rfl hc)) ?_
      refine ch_plain rfl rfl (w_and rfl (ev_tmp rfl) (evif_w rfl)) ?_
      refine ch_nil ?_
      refine awp_cond (ev_tmp rfl) ?_ ?_
      · intro h57
        have hf : 0 < j ∧ c.Key = x.Key := by simpa using h57
        have hc := hc0 (by omega)
        have hy := hy0 (by omega)
        have hins := scan_has hinvo.2.2.1.1 hc hf.2 ⟨t, x.Val, x.Gone⟩
        refine awp_seq ?_
        refine awp_seq ?_
        refine awp_region ?_
        refine sq_plain rfl rfl rfl (w_move rfl (ev_tmp rfl)) ?_
        refine sq_plain rfl rfl rfl (w_fldBn 0 rfl Try.underlying65 rfl Try.sizeOf9 (ev_tmp rfl) rfl) ?_
        refine sq_plain rfl rfl rfl (w_loadB1 1 rfl (ev_tmp rfl) rfl Try.isAgg9 rfl) ?_
        refine sq_plain rfl rfl rfl (w_callB rfl Try.call168 rfl (l3Last_spec q x.Key hinvo.2.2.1 hso) (flat_ik _ _) (evlb_cons (evb_lt (ev_tmp rfl) (nin_lend TCell.lcM (by first | exact hlen | exact hlen.trans (marksN_len _ _).symm) 2 rfl (fun o ho => List.mem_of_mem_drop (i := 3) (show o ∈ nin TCell.ow q xs from by first | exact ho | exact List.mem_append_left _ ho | exact List.mem_append_right _ ho | exact List.mem_append_right _ (List.mem_append_left _ ho) | exact List.mem_append_right _ (List.mem_append_right _ ho))))) (evlb_cons (evb (ev_tmp rfl)) evlb_nil))) ?_
        refine sq_plain rfl rfl rfl (w_move rfl (ev_tmp rfl)) ?_
        refine sq_plain rfl rfl rfl (w_geq rfl (ev_tmp rfl) (ev_tmp rfl)) ?_
        refine sq_nil ?_
        refine awp_cond (ev_tmp rfl) ?_ ?_
        · intro h63
          have k63 := of_decide_eq_true h63; try simp only [List.length_map] at k63
          have he : putP l w t = ([], false) := by unfold putP; rw [put_stop hinvo.2.2.2.2 hx k63]
          rw [he]
          refine awp_seq ?_
          refine awp_region ?_
          refine sq_plain rfl rfl rfl (w_assign rfl ev_cnils) ?_
          refine sq_plain rfl rfl rfl (w_assign rfl ev_cb) ?_
          refine sq_nil ?_
          refine awp_ret ?_
          refine retG_nil 153 2 ?_
          first | exact retG [0] ((Value.slice none 0 0), []) (rfl) rfl (by rfl) (resN rfl (by decide) (rv_cons (rv_tmp' rfl (by rfl)) (rv_cons (rv_tmp' rfl (by rfl)) rv_nil))) | exact retGT [0] 3 (nin TCell.ow q xs) [] ((Value.slice none 0 0), []) (rfl) rfl (show List.Perm (nin TCell.ow q xs) ((nin TCell.ow q xs) ++ []) from perm_nil) (by rfl) (resN rfl (by decide) (rv_cons (rv_tmp' rfl (by rfl)) (rv_cons (rv_tmp' rfl (by rfl)) rv_nil))) | exact retG [0] ((Value.slice none 0 0), xs) (hinv.2.1) rfl (by rfl) (resN rfl (by decide) (rv_cons (rv_tmp' rfl (by rfl)) (rv_cons (rv_tmp' rfl (by rfl)) rv_nil))) | exact retGT [0] 3 (nin TCell.ow q xs) [] ((Value.slice none 0 0), xs) (hinv.2.1) rfl (show List.Perm (nin TCell.ow q xs) ((nin TCell.ow q xs) ++ []) from perm_nil) (by rfl) (resN rfl (by decide) (rv_cons (rv_tmp' rfl (by rfl)) (rv_cons (rv_tmp' rfl (by rfl)) rv_nil)))
        · intro h63
          have k63 := of_decide_eq_false h63; try simp only [List.length_map] at k63
          have hnt : ¬ t ≤ lastTime q x.Key := k63
          have hpo := (List.getElem?_eq_some_iff.1 hc).1
          have hA : (nrows TCell.ocs (q.take (j - 1)) (xs.take (j - 1))).length = ((j : Int) - 1).toNat := (nrows_tlen (ocs := TCell.ocs) hc hy).trans (hj1 hf.1).symm
          obtain ⟨fx, hto⟩ : ∃ fx, RowsTo (nrows TCell.ocs (q.take (j - 1)) (xs.take (j - 1))) c.Key (c.Vers.map TVer.cs ++ [TVer.cs ⟨t, x.Val, x.Gone⟩]) (nrows TCell.ocs (q.drop (j - 1 + 1)) (xs.drop (j - 1 + 1))) (nin TCell.ow (q.eraseIdx (j - 1)) (xs.eraseIdx (j - 1))) (putC1 q x t) fx := ⟨_, by have h7 := rowsTo_set hc hy hlen ⟨t, x.Val, x.Gone⟩; unfold putC1; rw [hins]; rw [hf.2] at h7 ⊢; exact h7⟩
          have hcs := cell_len (Nat.le_trans (sizeL_get hc) hso)
          rw [nrows_split hc hy]
          refine AWP.le (le_tail 3 (t := (TCell.ow c y) ++ (nin TCell.ow (q.eraseIdx (j - 1)) (xs.eraseIdx (j - 1)))) (nin_get (ow := TCell.ow) hc hy)) ?_
          refine awp_skip ?_
          refine awp_seq ?_
          refine AWP.le (le_pick [0, 1, 1] rfl) ?_
          refine awp_region_mix _ [(0, false), (1, false), (2, false), (3, false), (4, false), (5, false), (6, false), (7, false), (8, false), (9, false), (10, false), (11, true)] (by kernel_rfl) (by kernel_rfl) rfl (invx_take 2) ?_
          refine bc_plain rfl rfl rfl (fun ext => w_move rfl (ev_tmp rfl)) ?_
          refine bc_plain rfl rfl rfl (fun ext => w_move rfl (ev_tmp rfl)) ?_
          refine bc_plain rfl rfl rfl (fun ext => w_subi rfl (ev_tmp rfl) ev_ci (by first | omega | ((try simp only [List.length_map, List.length_take, List.length_cons, List.length_nil, chunks_len, szR] at *); omega) | (have hc2 := hc; simp only [Bool.and_eq_true, Bool.or_eq_true, Bool.or_eq_false_iff, Bool.and_eq_false_iff, Bool.not_eq_true', Bool.not_eq_false', decide_eq_true_eq, decide_eq_false_iff_not, beq_iff_eq, bne_iff_ne, List.length_map, List.length_take] at hc2; omega))) ?_
          refine bc_plain rfl rfl rfl (fun ext => w_move rfl (ev_tmp rfl)) ?_
          refine bc_plain rfl rfl rfl (fun ext => w_move rfl (ev_tmp rfl)) ?_
          refine bc_plain rfl rfl rfl (fun ext => w_subi rfl (ev_tmp rfl) ev_ci (by first | omega | ((try simp only [List.length_map, List.length_take, List.length_cons, List.length_nil, chunks_len, szR] at *); omega) | (have hc2 := hc; simp only [Bool.and_eq_true, Bool.or_eq_true, Bool.or_eq_false_iff, Bool.and_eq_false_iff, Bool.not_eq_true', Bool.not_eq_false', decide_eq_true_eq, decide_eq_false_iff_not, beq_iff_eq, bne_iff_ne, List.length_map, List.length_take] at hc2; omega))) ?_
          refine bc_plain rfl rfl rfl (fun ext => w_aidx 1 rfl Try.underlying53 Try.sizeOf153 (ev_tmp rfl) rfl (ev_tmp rfl) (by omega) (by rw [List.length_append, List.length_cons]; omega)) ?_
          refine bc_plain rfl rfl rfl (fun ext => w_fldX 1 rfl Try.underlying153 rfl Try.sizeOf151 (ev_tmp rfl) rfl rfl (app_get hA)) ?_
          refine bc_plain rfl rfl rfl (fun ext => w_loadXf 1 rfl (ev_tmp rfl) rfl Try.isAgg151 (app_get hA) rfl) ?_
          refine bc_plain rfl rfl rfl (fun ext => w_loadA 0 rfl (ev_tmp rfl) rfl Try.isAgg155 Try.sizeOf155 rfl) ?_
          refine bc_plain rfl rfl rfl (fun ext => w_bslice rfl Try.underlying151 Try.sizeOf155 Try.zeroValue155 rfl rfl rfl rfl (bp_cons (ev_tmp rfl) (as_agg _) bp_nil) rfl rfl) ?_
          refine bc_eff rfl rfl rfl (opE_append (by' := 32) 2 rfl Try.underlying151 Try.type155 rfl rfl rfl rfl rfl rfl (ev_tmp rfl) (ev_tmp rfl) rfl (by first | omega | ((try simp only [List.length_map, List.length_take, List.length_cons, List.length_nil, chunks_len, szR] at *); omega) | (have hc2 := hc; simp only [Bool.and_eq_true, Bool.or_eq_true, Bool.or_eq_false_iff, Bool.and_eq_false_iff, Bool.not_eq_true', Bool.not_eq_false', decide_eq_true_eq, decide_eq_false_iff_not, beq_iff_eq, bne_iff_ne, List.length_map, List.length_take] at hc2; omega))) (fun a _ => (by first | exact invx_mk rfl | exact invx_mk (List.append_assoc _ _ _) | exact invx_all)) ?_
          intro v75_2 _
          refine bc_nil ?_
          refine sq_plain rfl rfl rfl (w_aidx 1 rfl Try.underlying53 Try.sizeOf153 (ev_tmp rfl) rfl (ev_tmp rfl) (by omega) (by rw [List.length_append, List.length_cons]; omega)) ?_
          refine sq_plain rfl rfl rfl (w_fldX 1 rfl Try.underlying153 rfl Try.sizeOf151 (ev_tmp rfl) rfl rfl (app_get hA)) ?_
          refine sq_fact 2 rfl fun one_v75_2 => ?_
          refine sq_storeXA 1 rfl rfl rfl (ev_tmp rfl) (ev_tmp rfl) (as_is one_v75_2) rfl Try.sizeOf151 hA rfl ?_
          refine sq_nil ?_
          refine awp_exit ?_
          refine awp_own (by first | (simp only [List.singleton_append, pick, List.eraseIdx_cons_zero, List.eraseIdx_cons_succ, List.set_cons_zero, List.set_cons_succ, List.cons_append, List.nil_append, List.getElem?_cons_zero, List.getElem?_cons_succ, List.append_nil, List.take_succ_cons, List.take_zero, List.drop_succ_cons, List.drop_zero]; exact rfl) | exact rfl) ?_
          refine AWP.le (le_pick [0, 0, 1, 0] rfl) ?_
          refine AWP.le (le_tail 3 (t := nin TCell.ow (putC1 q x t) (fx v75_2)) ((hto v75_2).2.2)) ?_
          refine awp_region ?_
          refine sq_plain rfl rfl rfl (w_addi rfl (ev_tmp rfl) ev_ci (by first | omega | ((try simp only [List.length_map, List.length_take, List.length_cons, List.length_nil, chunks_len, szR] at *); omega) | (have hc2 := hc; simp only [Bool.and_eq_true, Bool.or_eq_true, Bool.or_eq_false_iff, Bool.and_eq_false_iff, Bool.not_eq_true', Bool.not_eq_false', decide_eq_true_eq, decide_eq_false_iff_not, beq_iff_eq, bne_iff_ne, List.length_map, List.length_take] at hc2; omega))) ?_
          refine sq_plain rfl rfl rfl (w_move rfl (ev_tmp rfl)) ?_
          refine sq_nil ?_
          refine round_end4 i v q xs (i + 1) (v) (putC1 q x t) (fx v75_2) ?_ ?_ (Le.trans (le_pick [0, 1, 0] rfl) (le_dropeq 2 (Eq.trans (by first | exact congrArg (fun z => Own.arr _ _ _ z :: _) (hto v75_2).2.1 | exact congrArg (fun z => Own.arr _ _ _ z :: _) (by first | (rw [List.nil_append, List.append_assoc]; exact (hto v75_2).2.1) | (rw [List.append_assoc]; exact (hto v75_2).2.1))) (List.append_nil _).symm) ⟨rfl, rfl, rfl, rfl, rfl, trivial⟩))
          · exact ⟨by omega, (hto _).1, cellsOk_ins hinvo.2.2.1 _ _, by have h8 := putC1_size q x t; have h9 := size_take_succ (f := TWrite.size) hx; omega, put_step hinvo.2.2.2.2 hx hnt⟩
          · omega
      · intro h57
        have hnf : 0 < j → c.Key ≠ x.Key := fun h => by simpa [h] using h57
        obtain ⟨hins, hl0⟩ := scan_new hinvo.2.2.1.1 hinv.1 hinv.2 (fun z hz hzz => by rw [hc0 (by omega)] at hzz; injection hzz with hzz; subst hzz; rw [bytesLess_tri, hng hz]; simpa using fun e => hnf hz e.symm) ⟨t, x.Val, x.Gone⟩
        have hnt : ¬ t ≤ lastTime q x.Key := by rw [hl0]; omega
        obtain ⟨fx, hto⟩ : ∃ fx, RowsTo ((nrows TCell.ocs q xs).take j) x.Key [TVer.cs ⟨t, x.Val, x.Gone⟩] ((nrows TCell.ocs q xs).drop j) (nin TCell.ow q xs) (putC1 q x t) fx := ⟨_, by unfold putC1; rw [hins]; exact rowsTo_ins hinv.1 hlen _ _⟩
        refine awp_skip ?_
        refine awp_seq ?_
        refine AWP.le (le_sealD [2] 8 rfl rfl (lt_arr (List.mem_of_getElem? (i := 0) rfl) le_refl_e) gin_nil) ?_
        refine awp_region ?_
        refine sq_emptyarr rfl rfl rfl rfl Try.underlying53 Try.sizeOf153 ?_
        intro v78
        refine sq_plain rfl rfl rfl (w_move rfl (ev_tmp rfl)) ?_
        refine sq_plain rfl rfl rfl (w_move rfl (ev_tmp rfl)) ?_
        refine sq_plain rfl rfl rfl (w_lsl_lo rfl Try.underlying53 Try.sizeOf153 (ev_tmp rfl) (ev_tmp rfl) (by omega) (by rw [hrl]; omega)) ?_
        refine sq_append (by' := 40) 0 rfl rfl rfl rfl Try.underlying53 Try.type153 rfl rfl rfl rfl rfl rfl (ev_tmp rfl) (ev_tmp rfl) rfl (by simp only [List.length_nil, List.nil_append, List.length_append, List.length_take, List.length_drop, List.length_cons, chunks_len, hrl]; omega) ?_
        intro v82_3
        refine sq_plain rfl rfl rfl (w_assign rfl (ev_tmp rfl)) ?_
        refine sq_nil ?_
        refine AWP.le (le_sealD [0] 13 rfl rfl (lt_arr (List.mem_of_getElem? (i := 0) rfl) le_refl_e) gin_nil) ?_
        refine AWP.le (le_pick [0, 0] rfl) ?_
        refine awp_region_tree _ 14 (.pure 1 (.pure 2 (.pure 3 (.pure 5 (.pure 6 (.pure 7 (.pure 12 (.e2 0 (.e2 4 (.e1 8 (.pure 9 (.pure 10 (.e1 11 (.e1 13 .nil))))) 8 (.pure 9 (.pure 10 (.e1 4 (.e1 11 (.e1 13 .nil)))))) 8 (.pure 9 (.pure 10 (.e1 0 (.e1 4 (.e1 11 (.e1 13 .nil)))))))))))))) (by kernel_rfl) (by kernel_rfl) rfl (invx_take 2) ?_
        refine bt_plain rfl rfl rfl (fun ext => w_move rfl (ev_tmp rfl)) ?_
        refine bt_plain rfl rfl rfl (fun ext => w_move rfl (ev_tmp rfl)) ?_
        refine bt_plain rfl rfl rfl (fun ext => w_lsl_hi rfl Try.underlying53 Try.sizeOf153 (ev_tmp rfl) (ev_tmp rfl) (by omega) (by rw [hrl]; omega)) ?_
        refine bt_plain rfl rfl rfl (fun ext => w_fldBn 0 rfl Try.underlying65 rfl Try.sizeOf9 (ev_tmp rfl) rfl) ?_
        refine bt_plain rfl rfl rfl (fun ext => w_loadB1 1 rfl (ev_tmp rfl) rfl Try.isAgg9 rfl) ?_
        refine bt_plain rfl rfl rfl (fun ext => w_loadA 0 rfl (ev_tmp rfl) rfl Try.isAgg155 Try.sizeOf155 rfl) ?_
        refine bt_plain rfl rfl rfl (fun ext => w_move rfl (ev_tmp rfl)) ?_
        refine bt_e2 ?_ ?_
        · refine eff_s rfl rfl rfl (opE_mid 2 <| opE_empty rfl Try.underlying53 Try.sizeOf153) (fun a _ => (by first | exact invx_mk rfl | exact invx_mk (List.append_assoc _ _ _) | exact invx_all)) ?_
          intro v83 _
          refine bt_e2 ?_ ?_
          · refine eff_s rfl rfl rfl (opE_append (by' := 40) 2 rfl Try.underlying53 Try.type153 rfl rfl rfl rfl rfl rfl (ev_tmp rfl) (ev_tmp rfl) rfl (by simp only [List.length_nil, List.nil_append, List.length_append, List.length_take, List.length_drop, List.length_cons, chunks_len, hrl]; omega)) (fun a _ => (by first | exact invx_mk rfl | exact invx_mk (List.append_assoc _ _ _) | exact invx_all)) ?_
            intro v87_4 _
            refine bt_e1 ?_
            refine eff_s rfl rfl rfl (opE_one 3 (fun _ => rfl) (opE_mid 3 <| opE_bslice rfl Try.underlying151 Try.sizeOf155 Try.zeroValue155 rfl rfl rfl rfl (bp_cons (ev_tmp rfl) (as_agg _) bp_nil) rfl rfl)) (fun a _ => (by first | exact invx_mk rfl | exact invx_mk (List.append_assoc _ _ _) | exact invx_all)) ?_
            intro v91 hone_v91
            have one_v91 := hone_v91.2
            refine bt_plain rfl rfl rfl (fun ext => w_build (places := #[(0, 1), (1, 1)]) rfl Try.underlying153 Try.zeroValue153 (fun w => by kernel_rfl) rfl (bp_cons (ev_tmp rfl) (as_str _) (bp_cons (ev_tmp rfl) (as_is one_v91) bp_nil)) rfl) ?_
            refine bt_plain rfl rfl rfl (fun ext => w_bslice rfl Try.underlying53 Try.sizeOf153 Try.zeroValue153 rfl rfl rfl rfl (bp_cons (ev_tmp rfl) (as_agg _) bp_nil) rfl rfl) ?_
            refine bt_e1 ?_
            refine eff_s rfl rfl rfl (opE_append (by' := 40) 2 rfl Try.underlying53 Try.type153 rfl rfl rfl rfl rfl rfl (ev_tmp rfl) (ev_tmp rfl) rfl (by simp only [List.length_nil, List.nil_append, List.length_append, List.length_take, List.length_drop, List.length_cons, chunks_len, hrl]; omega)) (fun a _ => (by first | exact invx_mk rfl | exact invx_mk (List.append_assoc _ _ _) | exact invx_all)) ?_
            intro v94_5 _
            refine bt_e1 ?_
            refine eff_s rfl rfl rfl (opE_append (by' := 40) 2 rfl Try.underlying53 Try.type153 rfl rfl rfl rfl rfl rfl (ev_tmp rfl) (ev_tmp rfl) rfl (by simp only [List.length_nil, List.nil_append, List.length_append, List.length_take, List.length_drop, List.length_cons, chunks_len, hrl]; omega)) (fun a _ => (by first | exact invx_mk rfl | exact invx_mk (List.append_assoc _ _ _) | exact invx_all)) ?_
            intro v96_6 _
            refine bt_nil ?_
            refine sq_plain rfl rfl rfl (w_assign rfl (ev_tmp rfl)) ?_
            refine sq_nil ?_
            refine awp_own (by first | (simp only [List.singleton_append, pick, List.eraseIdx_cons_zero, List.eraseIdx_cons_succ, List.set_cons_zero, List.set_cons_succ, List.cons_append, List.nil_append, List.getElem?_cons_zero, List.getElem?_cons_succ, List.append_nil, List.take_succ_cons, List.take_zero, List.drop_succ_cons, List.drop_zero]; exact rfl) | exact rfl) ?_
            refine AWP.le (le_pick [0, 0, 0, 0] rfl) ?_
            refine AWP.le (le_tail 3 (t := nin TCell.ow (putC1 q x t) (fx v91)) ((hto v91).2.2)) ?_
            refine awp_region ?_
            refine sq_plain rfl rfl rfl (w_addi rfl (ev_tmp rfl) ev_ci (by first | omega | ((try simp only [List.length_map, List.length_take, List.length_cons, List.length_nil, chunks_len, szR] at *); omega) | (have hc2 := hc; simp only [Bool.and_eq_true, Bool.or_eq_true, Bool.or_eq_false_iff, Bool.and_eq_false_iff, Bool.not_eq_true', Bool.not_eq_false', decide_eq_true_eq, decide_eq_false_iff_not, beq_iff_eq, bne_iff_ne, List.length_map, List.length_take] at hc2; omega))) ?_
            refine sq_plain rfl rfl rfl (w_move rfl (ev_tmp rfl)) ?_
            refine sq_nil ?_
            refine round_end4 i v q xs (i + 1) (v96_6) (putC1 q x t) (fx v91) ?_ ?_ (Le.trans (le_pick [0, 0, 0] rfl) (le_dropeq 2 (Eq.trans (by first | exact congrArg (fun z => Own.arr _ _ _ z :: _) (hto v91).2.1 | exact congrArg (fun z => Own.arr _ _ _ z :: _) (by first | (rw [List.nil_append, List.append_assoc]; exact (hto v91).2.1) | (rw [List.append_assoc]; exact (hto v91).2.1))) (List.append_nil _).symm) ⟨rfl, rfl, rfl, rfl, rfl, trivial⟩))
            · exact ⟨by omega, (hto _).1, cellsOk_ins hinvo.2.2.1 _ _, by have h8 := putC1_size q x t; have h9 := size_take_succ (f := TWrite.size) hx; omega, put_step hinvo.2.2.2.2 hx hnt⟩
            · omega
          · refine eff_s rfl rfl rfl (opE_one 3 (fun _ => rfl) (opE_mid 3 <| opE_bslice rfl Try.underlying151 Try.sizeOf155 Try.zeroValue155 rfl rfl rfl rfl (bp_cons (ev_tmp rfl) (as_agg _) bp_nil) rfl rfl)) (fun a _ => (by first | exact invx_mk rfl | exact invx_mk (List.append_assoc _ _ _) | exact invx_all)) ?_
            intro v91 hone_v91
            have one_v91 := hone_v91.2
            refine bt_plain rfl rfl rfl (fun ext => w_build (places := #[(0, 1), (1, 1)]) rfl Try.underlying153 Try.zeroValue153 (fun w => by kernel_rfl) rfl (bp_cons (ev_tmp rfl) (as_str _) (bp_cons (ev_tmp rfl) (as_is one_v91) bp_nil)) rfl) ?_
            refine bt_plain rfl rfl rfl (fun ext => w_bslice rfl Try.underlying53 Try.sizeOf153 Try.zeroValue153 rfl rfl rfl rfl (bp_cons (ev_tmp rfl) (as_agg _) bp_nil) rfl rfl) ?_
            refine bt_e1 ?_
            refine eff_s rfl rfl rfl (opE_append (by' := 40) 2 rfl Try.underlying53 Try.type153 rfl rfl rfl rfl rfl rfl (ev_tmp rfl) (ev_tmp rfl) rfl (by simp only [List.length_nil, List.nil_append, List.length_append, List.length_take, List.length_drop, List.length_cons, chunks_len, hrl]; omega)) (fun a _ => (by first | exact invx_mk rfl | exact invx_mk (List.append_assoc _ _ _) | exact invx_all)) ?_
            intro v87_7 _
            refine bt_e1 ?_
            refine eff_s rfl rfl rfl (opE_append (by' := 40) 2 rfl Try.underlying53 Try.type153 rfl rfl rfl rfl rfl rfl (ev_tmp rfl) (ev_tmp rfl) rfl (by simp only [List.length_nil, List.nil_append, List.length_append, List.length_take, List.length_drop, List.length_cons, chunks_len, hrl]; omega)) (fun a _ => (by first | exact invx_mk rfl | exact invx_mk (List.append_assoc _ _ _) | exact invx_all)) ?_
            intro v94_8 _
            refine bt_e1 ?_
            refine eff_s rfl rfl rfl (opE_append (by' := 40) 2 rfl Try.underlying53 Try.type153 rfl rfl rfl rfl rfl rfl (ev_tmp rfl) (ev_tmp rfl) rfl (by simp only [List.length_nil, List.nil_append, List.length_append, List.length_take, List.length_drop, List.length_cons, chunks_len, hrl]; omega)) (fun a _ => (by first | exact invx_mk rfl | exact invx_mk (List.append_assoc _ _ _) | exact invx_all)) ?_
            intro v96_9 _
            refine bt_nil ?_
            refine sq_plain rfl rfl rfl (w_assign rfl (ev_tmp rfl)) ?_
            refine sq_nil ?_
            refine awp_own (by first | (simp only [List.singleton_append, pick, List.eraseIdx_cons_zero, List.eraseIdx_cons_succ, List.set_cons_zero, List.set_cons_succ, List.cons_append, List.nil_append, List.getElem?_cons_zero, List.getElem?_cons_succ, List.append_nil, List.take_succ_cons, List.take_zero, List.drop_succ_cons, List.drop_zero]; exact rfl) | exact rfl) ?_
            refine AWP.le (le_pick [0, 0, 0, 0] rfl) ?_
            refine AWP.le (le_tail 3 (t := nin TCell.ow (putC1 q x t) (fx v91)) ((hto v91).2.2)) ?_
            refine awp_region ?_
            refine sq_plain rfl rfl rfl (w_addi rfl (ev_tmp rfl) ev_ci (by first | omega | ((try simp only [List.length_map, List.length_take, List.length_cons, List.length_nil, chunks_len, szR] at *); omega) | (have hc2 := hc; simp only [Bool.and_eq_true, Bool.or_eq_true, Bool.or_eq_false_iff, Bool.and_eq_false_iff, Bool.not_eq_true', Bool.not_eq_false', decide_eq_true_eq, decide_eq_false_iff_not, beq_iff_eq, bne_iff_ne, List.length_map, List.length_take] at hc2; omega))) ?_
            refine sq_plain rfl rfl rfl (w_move rfl (ev_tmp rfl)) ?_
            refine sq_nil ?_
            refine round_end4 i v q xs (i + 1) (v96_9) (putC1 q x t) (fx v91) ?_ ?_ (Le.trans (le_pick [0, 0, 0] rfl) (le_dropeq 2 (Eq.trans (by first | exact congrArg (fun z => Own.arr _ _ _ z :: _) (hto v91).2.1 | exact congrArg (fun z => Own.arr _ _ _ z :: _) (by first | (rw [List.nil_append, List.append_assoc]; exact (hto v91).2.1) | (rw [List.append_assoc]; exact (hto v91).2.1))) (List.append_nil _).symm) ⟨rfl, rfl, rfl, rfl, rfl, trivial⟩))
            · exact ⟨by omega, (hto _).1, cellsOk_ins hinvo.2.2.1 _ _, by have h8 := putC1_size q x t; have h9 := size_take_succ (f := TWrite.size) hx; omega, put_step hinvo.2.2.2.2 hx hnt⟩
            · omega
        · refine eff_s rfl rfl rfl (opE_one 2 (fun _ => rfl) (opE_mid 2 <| opE_bslice rfl Try.underlying151 Try.sizeOf155 Try.zeroValue155 rfl rfl rfl rfl (bp_cons (ev_tmp rfl) (as_agg _) bp_nil) rfl rfl)) (fun a _ => (by first | exact invx_mk rfl | exact invx_mk (List.append_assoc _ _ _) | exact invx_all)) ?_
          intro v91 hone_v91
          have one_v91 := hone_v91.2
          refine bt_plain rfl rfl rfl (fun ext => w_build (places := #[(0, 1), (1, 1)]) rfl Try.underlying153 Try.zeroValue153 (fun w => by kernel_rfl) rfl (bp_cons (ev_tmp rfl) (as_str _) (bp_cons (ev_tmp rfl) (as_is one_v91) bp_nil)) rfl) ?_
          refine bt_plain rfl rfl rfl (fun ext => w_bslice rfl Try.underlying53 Try.sizeOf153 Try.zeroValue153 rfl rfl rfl rfl (bp_cons (ev_tmp rfl) (as_agg _) bp_nil) rfl rfl) ?_
          refine bt_e1 ?_
          refine eff_s rfl rfl rfl (opE_mid 3 <| opE_empty rfl Try.underlying53 Try.sizeOf153) (fun a _ => (by first | exact invx_mk rfl | exact invx_mk (List.append_assoc _ _ _) | exact invx_all)) ?_
          intro v83 _
          refine bt_e1 ?_
          refine eff_s rfl rfl rfl (opE_append (by' := 40) 3 rfl Try.underlying53 Try.type153 rfl rfl rfl rfl rfl rfl (ev_tmp rfl) (ev_tmp rfl) rfl (by simp only [List.length_nil, List.nil_append, List.length_append, List.length_take, List.length_drop, List.length_cons, chunks_len, hrl]; omega)) (fun a _ => (by first | exact invx_mk rfl | exact invx_mk (List.append_assoc _ _ _) | exact invx_all)) ?_
          intro v87_10 _
          refine bt_e1 ?_
          refine eff_s rfl rfl rfl (opE_append (by' := 40) 3 rfl Try.underlying53 Try.type153 rfl rfl rfl rfl rfl rfl (ev_tmp rfl) (ev_tmp rfl) rfl (by simp only [List.length_nil, List.nil_append, List.length_append, List.length_take, List.length_drop, List.length_cons, chunks_len, hrl]; omega)) (fun a _ => (by first | exact invx_mk rfl | exact invx_mk (List.append_assoc _ _ _) | exact invx_all)) ?_
          intro v94_11 _
          refine bt_e1 ?_
          refine eff_s rfl rfl rfl (opE_append (by' := 40) 3 rfl Try.underlying53 Try.type153 rfl rfl rfl rfl rfl rfl (ev_tmp rfl) (ev_tmp rfl) rfl (by simp only [List.length_nil, List.nil_append, List.length_append, List.length_take, List.length_drop, List.length_cons, chunks_len, hrl]; omega)) (fun a _ => (by first | exact invx_mk rfl | exact invx_mk (List.append_assoc _ _ _) | exact invx_all)) ?_
          intro v96_12 _
          refine bt_nil ?_
          refine sq_plain rfl rfl rfl (w_assign rfl (ev_tmp rfl)) ?_
          refine sq_nil ?_
          refine awp_own (by first | (simp only [List.singleton_append, pick, List.eraseIdx_cons_zero, List.eraseIdx_cons_succ, List.set_cons_zero, List.set_cons_succ, List.cons_append, List.nil_append, List.getElem?_cons_zero, List.getElem?_cons_succ, List.append_nil, List.take_succ_cons, List.take_zero, List.drop_succ_cons, List.drop_zero]; exact rfl) | exact rfl) ?_
          refine AWP.le (le_pick [0, 0, 1, 0] rfl) ?_
          refine AWP.le (le_tail 3 (t := nin TCell.ow (putC1 q x t) (fx v91)) ((hto v91).2.2)) ?_
          refine awp_region ?_
          refine sq_plain rfl rfl rfl (w_addi rfl (ev_tmp rfl) ev_ci (by first | omega | ((try simp only [List.length_map, List.length_take, List.length_cons, List.length_nil, chunks_len, szR] at *); omega) | (have hc2 := hc; simp only [Bool.and_eq_true, Bool.or_eq_true, Bool.or_eq_false_iff, Bool.and_eq_false_iff, Bool.not_eq_true', Bool.not_eq_false', decide_eq_true_eq, decide_eq_false_iff_not, beq_iff_eq, bne_iff_ne, List.length_map, List.length_take] at hc2; omega))) ?_
          refine sq_plain rfl rfl rfl (w_move rfl (ev_tmp rfl)) ?_
          refine sq_nil ?_
          refine round_end4 i v q xs (i + 1) (v96_12) (putC1 q x t) (fx v91) ?_ ?_ (Le.trans (le_pick [0, 0, 0] rfl) (le_dropeq 2 (Eq.trans (by first | exact congrArg (fun z => Own.arr _ _ _ z :: _) (hto v91).2.1 | exact congrArg (fun z => Own.arr _ _ _ z :: _) (by first | (rw [List.nil_append, List.append_assoc]; exact (hto v91).2.1) | (rw [List.append_assoc]; exact (hto v91).2.1))) (List.append_nil _).symm) ⟨rfl, rfl, rfl, rfl, rfl, trivial⟩))
          · exact ⟨by omega, (hto _).1, cellsOk_ins hinvo.2.2.1 _ _, by have h8 := putC1_size q x t; have h9 := size_take_succ (f := TWrite.size) hx; omega, put_step hinvo.2.2.2.2 hx hnt⟩
          · omega
  · intro h19
    have k19 := of_decide_eq_false h19; try simp only [List.length_map] at k19
    have hge : w.length ≤ i := by omega
    have hpe := put_end hinv.2.2.2.2 hge
    have htk := size_take_le (f := TWrite.size) (l := w) i
    have hso : sizeL TCell.size q ≤ 4194304 := by omega
    have he : putP l w t = (q, l3Good q) := by unfold putP; rw [hpe]
    rw [he]
    refine awp_exit ?_
    refine awp_seq ?_
    refine awp_region ?_
    refine sq_plain rfl rfl rfl (w_move rfl (ev_tmp rfl)) ?_
    refine sq_plain rfl rfl rfl (w_move rfl (ev_tmp rfl)) ?_
    refine sq_plain rfl rfl rfl (w_callB rfl Try.call143 rfl (l3Good_spec q hso) (flat_bool _) (evlb_cons (evb_lt (ev_tmp rfl) (nin_lend TCell.lcM (by first | exact hlen | exact hlen.trans (marksN_len _ _).symm) 0 rfl (fun o ho => List.mem_of_mem_drop (i := 1) (show o ∈ nin TCell.ow q xs from by first | exact ho | exact List.mem_append_left _ ho | exact List.mem_append_right _ ho | exact List.mem_append_right _ (List.mem_append_left _ ho) | exact List.mem_append_right _ (List.mem_append_right _ ho))))) evlb_nil)) ?_
    refine sq_plain rfl rfl rfl (w_assign rfl (ev_tmp rfl)) ?_
    refine sq_plain rfl rfl rfl (w_assign rfl (ev_tmp rfl)) ?_
    refine sq_nil ?_
    refine awp_ret ?_
    first | exact retG [0] (v, []) (rfl) rfl (by rfl) (resN rfl (by decide) (rv_cons (rv_tmp' rfl (by rfl)) (rv_cons (rv_tmp' rfl (by rfl)) rv_nil))) | exact retGT [0] 0 (nin TCell.ow q xs) [] (v, []) (rfl) rfl (show List.Perm (nin TCell.ow q xs) ((nin TCell.ow q xs) ++ []) from perm_nil) (by rfl) (resN rfl (by decide) (rv_cons (rv_tmp' rfl (by rfl)) (rv_cons (rv_tmp' rfl (by rfl)) rv_nil))) | exact retGT [0] 0 (nin TCell.ow q xs) [] (v, xs) (hinv.2.1) rfl (show List.Perm (nin TCell.ow q xs) ((nin TCell.ow q xs) ++ []) from perm_nil) (by rfl) (resN rfl (by decide) (rv_cons (rv_tmp' rfl (by rfl)) (rv_cons (rv_tmp' rfl (by rfl)) rv_nil)))
end Go.Proofs.Yteliahajeokciaa

set_option linter.unusedVariables false
set_option linter.unusedSimpArgs false
namespace Go.M
open Go.AV
def wOf (c : TFeedItem) : List TWrite := [⟨c.Key, c.Val, c.Gone⟩]
def feedAll (q : List TCell) (g : Int) : List TFeedItem → Option (List TCell)
  | [] => some q
  | c :: l => if c.Group ≠ g then feedAll q g l else if (!(putCells q (wOf c) c.Time).2) = true then none else feedAll (putCells q (wOf c) c.Time).1 g l
def feedRes (q : List TCell) (g : Int) (l : List TFeedItem) : List TCell × Bool := match feedAll q g l with
  | none => ([], false)
  | some r => (r, true)
def feedCells (q : List TCell) (l : List TFeedItem) (g : Int) : List TCell × Bool := if (!goodCells q || !goodFeed l || !isGroup g) = true then ([], false) else feedRes q g l
def feedCellsS (q : List TCell) (l : List TFeedItem) (g : Int) : List TCell × Bool := if (!l3Good q || !l23Feed l || !within g 0 3) = true then ([], false) else feedRes q g l
theorem feedCells_eq (q : List TCell) (l : List TFeedItem) (g : Int) : feedCells q l g = feedCellsS q l g := by
  unfold feedCells feedCellsS isGroup; rw [goodCells_eq, goodFeed_eq]
theorem sizeL_max {α : Type} {f : α → Nat} {c : Nat} : ∀ {l : List α}, (∀ x ∈ l, f x ≤ c) → sizeL f l ≤ l.length * (c + 1)
  | [], _ => by simp [sizeL]
  | x :: l, h => by
    rw [sizeL_cons]
    have h1 := h x List.mem_cons_self
    have h2 := sizeL_max (l := l) fun y hy => h y (List.mem_cons_of_mem _ hy)
    rw [List.length_cons, Nat.add_mul]; omega
theorem stored_len {s : Str} {g : Bool} (h : isStored s g = true) : s.length ≤ 24 := by
  unfold isStored goodVal at h
  simp only [Bool.and_eq_true, decide_eq_true_eq] at h
  omega
theorem good_size {l : List TCell} (h : goodCells l = true) : sizeL TCell.size l ≤ 9912 := by
  obtain ⟨h1, _, h3⟩ := goodCells_facts h
  have : ∀ c ∈ l, c.size ≤ 412 := fun c hc => by
    obtain ⟨k1, k2, k3, _, k5⟩ := h3 c hc
    have e1 := goodKey_len k1
    have e2 := sizeL_max (f := TVer.size) (c := 24) (l := c.Vers) fun v hv => by
      have := k5 v hv
      unfold verGood at this
      simp only [Bool.and_eq_true] at this
      exact stored_len this.2
    unfold TCell.size; omega
  have h4 := sizeL_max this
  omega
theorem put_good {q : List TCell} {w : List TWrite} {t : Int} (h : (putCells q w t).2 = true) : goodCells (putCells q w t).1 = true := by
  unfold putCells at *
  cases hp : putAll q w t with
  | none => rw [hp] at h; cases h
  | some o =>
    rw [hp] at h
    simp only at h ⊢
    split at h
    · cases h
    · rename_i hg
      rw [if_neg hg]; simpa using hg
theorem item_write {c : TFeedItem} (h : goodItem c = true) : goodWrites (wOf c) = true ∧ isTime c.Time = true := by
  unfold goodItem at h
  simp only [Bool.and_eq_true] at h
  refine ⟨?_, h.1.1.1⟩
  unfold goodWrites wOf areRising wKeys
  simp only [List.length_cons, List.length_nil, List.map_cons, List.map_nil, List.all_cons, List.all_nil, adj, List.any_cons, List.any_nil, h.1.2, h.2]
  rfl
theorem feed_item {l : List TFeedItem} (h : goodFeed l = true) {i : Nat} {c : TFeedItem} (hc : l[i]? = some c) : goodItem c = true := by
  unfold goodFeed at h
  simp only [Bool.and_eq_true, Bool.not_eq_true', List.any_eq_false] at h
  have := h.2 c (List.mem_of_getElem? hc)
  simpa using this
theorem putS_eq {q : List TCell} {c : TFeedItem} (hq : goodCells q = true) (hc : goodItem c = true) : putCellsS q (wOf c) c.Time = putCells q (wOf c) c.Time := by
  rw [← putCellsR_eq]
  unfold putCellsR
  obtain ⟨h1, h2⟩ := item_write hc
  rw [hq, h1, h2]; rfl
theorem feedRes_put {l : List TFeedItem} {q0 q : List TCell} {g : Int} {i : Nat} {c : TFeedItem} (h : feedRes q0 g l = feedRes q g (l.drop i)) (hc : l[i]? = some c) (hg : c.Group = g) (hp : (putCells q (wOf c) c.Time).2 = true) : feedRes q0 g l = feedRes (putCells q (wOf c) c.Time).1 g (l.drop (i + 1)) := by
  rw [h, drop_some hc]
  have e : feedAll q g (c :: l.drop (i + 1)) = feedAll (putCells q (wOf c) c.Time).1 g (l.drop (i + 1)) := by
    show (if c.Group ≠ g then _ else _) = _
    rw [if_neg (by simpa using hg), if_neg (by rw [hp]; decide)]
  unfold feedRes; rw [e]
theorem feedRes_stop {l : List TFeedItem} {q0 q : List TCell} {g : Int} {i : Nat} {c : TFeedItem} (h : feedRes q0 g l = feedRes q g (l.drop i)) (hc : l[i]? = some c) (hg : c.Group = g) (hp : (putCells q (wOf c) c.Time).2 = false) : feedRes q0 g l = ([], false) := by
  rw [h, drop_some hc]
  have e : feedAll q g (c :: l.drop (i + 1)) = none := by
    show (if c.Group ≠ g then _ else _) = _
    rw [if_neg (by simpa using hg), if_pos (by rw [hp]; rfl)]
  unfold feedRes; rw [e]
theorem feedRes_skip {l : List TFeedItem} {q0 q : List TCell} {g : Int} {i : Nat} {c : TFeedItem} (h : feedRes q0 g l = feedRes q g (l.drop i)) (hc : l[i]? = some c) (hg : c.Group ≠ g) : feedRes q0 g l = feedRes q g (l.drop (i + 1)) := by
  rw [h, drop_some hc]
  have e : feedAll q g (c :: l.drop (i + 1)) = feedAll q g (l.drop (i + 1)) := by
    show (if c.Group ≠ g then _ else _) = _
    rw [if_pos hg]
  unfold feedRes; rw [e]
theorem feedRes_end {l : List TFeedItem} {q0 q : List TCell} {g : Int} {i : Nat} (h : feedRes q0 g l = feedRes q g (l.drop i)) (hi : l.length ≤ i) : feedRes q0 g l = (q, true) := by
  rw [h, List.drop_eq_nil_of_le hi]; rfl
def TCell.markE (p : TCell) (k : Int) : TCell := ⟨markText k, marks mkVer 3 p.Vers.length (k + 1)⟩
def TCell.markEN (p : TCell) (k : Int) : Int := k + 1 + 3 * p.Vers.length
theorem TCell.markEN_le (p : TCell) (k : Int) : k ≤ p.markEN k := by unfold TCell.markEN; omega
theorem TCell.markEN_le1 (p : TCell) (k : Int) : k + 1 ≤ p.markEN k := by unfold TCell.markEN; omega
theorem cellsN_size : ∀ (l : List TCell) (k : Int), countN TCell.markEN l k ≤ k + 3 * sizeL TCell.size l
  | [], k => by simp [countN, sizeL]
  | p :: l, k => by
    unfold countN
    have h1 := cellsN_size l (p.markEN k)
    have h2 : p.markEN k ≤ k + 3 * p.size + 1 := by
      unfold TCell.markEN TCell.size
      have h3 : p.Vers.length ≤ sizeL TVer.size p.Vers := sizeL_len
      omega
    rw [sizeL_cons]
    omega
end Go.M

set_option linter.unusedVariables false
set_option linter.unusedSimpArgs false
set_option maxRecDepth 100000
set_option maxHeartbeats 1000000
namespace Go.Proofs.Yteliahajeokciaa
open Go Go.AV Go.M
attribute [local irreducible] OpW OpA OpS AWP FSpec ESpec GSpec OpE RetOk RetOkG RvDen Le Ev GuardIs SrcIs
theorem wOf_size {c : TFeedItem} (h : goodItem c = true) : sizeL TWrite.size (wOf c) ≤ 1048576 := by
  unfold goodItem at h
  simp only [Bool.and_eq_true] at h
  have h1 := goodKey_len h.1.2
  have h2 := stored_len h.2
  unfold wOf sizeL TWrite.size
  simp; omega
theorem isTime_pos {t : Int} (h : isTime t = true) : 1 ≤ t := by
  unfold isTime within at h
  simp only [Bool.and_eq_true, decide_eq_true_eq] at h
  omega
theorem putCellsS_own (l : List TCell) (w : List TWrite) (t : Int) (hs : sizeL TCell.size l ≤ 1048576) (hw : sizeL TWrite.size w ≤ 1048576) : GSpec Try.prog 60 [AV.list 2 (l.map TCell.cs), AV.list 3 (w.map TWrite.cs), AV.int t] [] (fun x : Value × List Value => x.2.length = (putCellsS l w t).1.length) (fun x => .arr x.1 153 2 (nrows TCell.ocs (putCellsS l w t).1 x.2) :: nin TCell.ow (putCellsS l w t).1 x.2) (fun x => AV.tup [AV.is x.1, AV.bool (putCellsS l w t).2]) := by
  refine gspec_of_awp Try.func60 rfl Try.ntmps60 rfl ?_
  refine awp_seq ?_
  refine awp_region ?_
  refine sq_plain rfl rfl rfl (w_assign rfl ev_cnils) ?_
  refine sq_plain rfl rfl rfl (w_assign rfl ev_cb) ?_
  refine sq_nil ?_
  refine awp_seq ?_
  refine awp_seq ?_
  refine awp_region ?_
  refine sq_plain rfl rfl rfl (w_move rfl (ev_tmp rfl)) ?_
  refine sq_plain rfl rfl rfl (w_call rfl Try.call143 rfl (l3Good_spec _ (by first | assumption | omega)) (evl_cons (ev_tmp rfl) evl_nil)) ?_
  refine sq_plain rfl rfl rfl (w_not rfl (ev_tmp rfl)) ?_
  refine sq_plain rfl rfl rfl (w_move rfl (ev_tmp rfl)) ?_
  refine sq_grd rfl rfl (guard_f rfl rfl rfl) (fun hc => w_move rfl (ev_tmp rfl)) ?_
  refine sq_grd rfl rfl (guard_f rfl rfl rfl) (fun hc => w_call rfl Try.call157 rfl (l3Writes_spec _ (by first | assumption | omega)) (evl_cons (ev_whn rfl hc) evl_nil)) ?_
  refine sq_grd rfl rfl (guard_f rfl rfl rfl) (fun hc => w_not rfl (ev_whn rfl hc)) ?_
  refine sq_plain rfl rfl rfl (w_or rfl (ev_tmp rfl) (evif_w rfl)) ?_
  refine sq_plain rfl rfl rfl (w_move rfl (ev_tmp rfl)) ?_
  refine sq_grd rfl rfl (guard_f rfl rfl rfl) (fun hc => w_move rfl (ev_tmp rfl)) ?_
  refine sq_grd rfl rfl (guard_f rfl rfl rfl) (fun hc => w_call rfl Try.call158 rfl (l3Time_spec _) (evl_cons (ev_whn rfl hc) evl_nil)) ?_
  refine sq_grd rfl rfl (guard_f rfl rfl rfl) (fun hc => w_not rfl (ev_whn rfl hc)) ?_
  refine sq_plain rfl rfl rfl (w_or rfl (ev_tmp rfl) (evif_w rfl)) ?_
  refine sq_nil ?_
  refine awp_cond (ev_tmp rfl) ?_ ?_
  · intro h22
    have he : putCellsS l w t = ([], false) := by unfold putCellsS; rw [if_pos h22]
    rw [he]
    refine awp_seq ?_
    refine awp_region ?_
    refine sq_plain rfl rfl rfl (w_assign rfl ev_cnils) ?_
    refine sq_plain rfl rfl rfl (w_assign rfl ev_cb) ?_
    refine sq_nil ?_
    refine awp_ret ?_
    refine retG_nil 153 2 ?_
    first | exact retG [0] ((Value.slice none 0 0), []) (rfl) rfl (by rfl) (resN rfl (by decide) (rv_cons (rv_tmp' rfl (by rfl)) (rv_cons (rv_tmp' rfl (by rfl)) rv_nil))) | exact retG [0] ((Value.slice none 0 0), x27.2) (ok27) rfl (by rfl) (resN rfl (by decide) (rv_cons (rv_tmp' rfl (by rfl)) (rv_cons (rv_tmp' rfl (by rfl)) rv_nil)))
  · intro h22
    have hg := h22
    simp only [Bool.or_eq_false_iff, Bool.not_eq_false'] at hg
    have hok := cellsOk_good (l := l) (by rw [goodCells_eq]; exact hg.1.1)
    have ht1 := isTime_pos (t := t) hg.2
    refine awp_skip ?_
    refine awp_seq ?_
    refine awp_region ?_
    refine sq_plain rfl rfl rfl (w_move rfl (ev_tmp rfl)) ?_
    refine sq_plain rfl rfl rfl (w_move rfl (ev_tmp rfl)) ?_
    refine sq_plain rfl rfl rfl (w_move rfl (ev_tmp rfl)) ?_
    refine sq_callGT [] 0 1 ([]) ([]) (fun zz => nin TCell.ow (putP l w t).1 zz.2) rfl rfl rfl rfl Try.call159 rfl rfl (show List.Perm ([]) (([]) ++ ([])) from List.Perm.refl _) (l3Put_own l w t hok hs hw ht1) (evl_cons (ev_tmp rfl) (evl_cons (ev_tmp rfl) (evl_cons (ev_tmp rfl) evl_nil))) (fun a => perm_lin) ?_
    intro x27 ok27
    refine sq_plain rfl rfl rfl (w_move rfl (ev_tmp rfl)) ?_
    refine sq_plain rfl rfl rfl (w_extract rfl (ev_tmp rfl) rfl) ?_
    refine sq_plain rfl rfl rfl (w_extract rfl (ev_tmp rfl) rfl) ?_
    refine sq_plain rfl rfl rfl (w_assign rfl (ev_tmp rfl)) ?_
    refine sq_plain rfl rfl rfl (w_assign rfl (ev_tmp rfl)) ?_
    refine sq_nil ?_
    refine awp_seq ?_
    refine awp_seq ?_
    refine awp_region ?_
    refine sq_plain rfl rfl rfl (w_move rfl (ev_tmp rfl)) ?_
    refine sq_plain rfl rfl rfl (w_not rfl (ev_tmp rfl)) ?_
    refine sq_nil ?_
    refine awp_cond (ev_tmp rfl) ?_ ?_
    · intro h31
      have he : putCellsS l w t = ([], false) := by unfold putCellsS; rw [if_neg (by rw [h22]; decide), putCells_eq, if_pos h31]
      rw [he]
      refine awp_seq ?_
      refine awp_region ?_
      refine sq_plain rfl rfl rfl (w_assign rfl ev_cnils) ?_
      refine sq_plain rfl rfl rfl (w_assign rfl ev_cb) ?_
      refine sq_nil ?_
      refine awp_ret ?_
      refine retG_nil 153 2 ?_
      first | exact retG [0] ((Value.slice none 0 0), []) (rfl) rfl (by rfl) (resN rfl (by decide) (rv_cons (rv_tmp' rfl (by rfl)) (rv_cons (rv_tmp' rfl (by rfl)) rv_nil))) | exact retGT [0] 1 (nin TCell.ow (putP l w t).1 x27.2) [] ((Value.slice none 0 0), []) (rfl) rfl (show List.Perm (nin TCell.ow (putP l w t).1 x27.2) ((nin TCell.ow (putP l w t).1 x27.2) ++ []) from perm_nil) (by rfl) (resN rfl (by decide) (rv_cons (rv_tmp' rfl (by rfl)) (rv_cons (rv_tmp' rfl (by rfl)) rv_nil))) | exact retG [0] ((Value.slice none 0 0), x27.2) (ok27) rfl (by rfl) (resN rfl (by decide) (rv_cons (rv_tmp' rfl (by rfl)) (rv_cons (rv_tmp' rfl (by rfl)) rv_nil))) | exact retGT [0] 1 (nin TCell.ow (putP l w t).1 x27.2) [] ((Value.slice none 0 0), x27.2) (ok27) rfl (show List.Perm (nin TCell.ow (putP l w t).1 x27.2) ((nin TCell.ow (putP l w t).1 x27.2) ++ []) from perm_nil) (by rfl) (resN rfl (by decide) (rv_cons (rv_tmp' rfl (by rfl)) (rv_cons (rv_tmp' rfl (by rfl)) rv_nil)))
    · intro h31
      have he : putCellsS l w t = ((putP l w t).1, true) := by unfold putCellsS; rw [if_neg (by rw [h22]; decide), putCells_eq, if_neg (by rw [h31]; decide)]
      rw [he]
      refine awp_skip ?_
      refine awp_seq ?_
      refine awp_region ?_
      refine sq_plain rfl rfl rfl (w_move rfl (ev_tmp rfl)) ?_
      refine sq_plain rfl rfl rfl (w_assign rfl (ev_tmp rfl)) ?_
      refine sq_plain rfl rfl rfl (w_assign rfl ev_cb) ?_
      refine sq_nil ?_
      refine awp_ret ?_
      first | exact retG [0] (x27.1, []) (rfl) rfl (by rfl) (resN rfl (by decide) (rv_cons (rv_tmp' rfl (by rfl)) (rv_cons (rv_tmp' rfl (by rfl)) rv_nil))) | exact retGT [0] 0 (nin TCell.ow (putP l w t).1 x27.2) [] (x27.1, []) (rfl) rfl (show List.Perm (nin TCell.ow (putP l w t).1 x27.2) ((nin TCell.ow (putP l w t).1 x27.2) ++ []) from perm_nil) (by rfl) (resN rfl (by decide) (rv_cons (rv_tmp' rfl (by rfl)) (rv_cons (rv_tmp' rfl (by rfl)) rv_nil))) | exact retGT [0] 0 (nin TCell.ow (putP l w t).1 x27.2) [] (x27.1, x27.2) (ok27) rfl (show List.Perm (nin TCell.ow (putP l w t).1 x27.2) ((nin TCell.ow (putP l w t).1 x27.2) ++ []) from perm_nil) (by rfl) (resN rfl (by decide) (rv_cons (rv_tmp' rfl (by rfl)) (rv_cons (rv_tmp' rfl (by rfl)) rv_nil)))
theorem putCellsR_own (l : List TCell) (w : List TWrite) (t : Int) (hs : sizeL TCell.size l ≤ 1048576) (hw : sizeL TWrite.size w ≤ 1048576) : GSpec Try.prog 59 [AV.list 2 (l.map TCell.cs), AV.list 3 (w.map TWrite.cs), AV.int t] [] (fun x : Value × List Value => x.2.length = (putCellsR l w t).1.length) (fun x => .arr x.1 153 2 (nrows TCell.ocs (putCellsR l w t).1 x.2) :: nin TCell.ow (putCellsR l w t).1 x.2) (fun x => AV.tup [AV.is x.1, AV.bool (putCellsR l w t).2]) := by
  refine gspec_of_awp Try.func59 rfl Try.ntmps59 rfl ?_
  refine awp_seq ?_
  refine awp_region ?_
  refine sq_plain rfl rfl rfl (w_assign rfl ev_cnils) ?_
  refine sq_plain rfl rfl rfl (w_assign rfl ev_cb) ?_
  refine sq_nil ?_
  refine awp_seq ?_
  refine awp_seq ?_
  refine awp_region ?_
  refine sq_plain rfl rfl rfl (w_move rfl (ev_tmp rfl)) ?_
  refine sq_plain rfl rfl rfl (w_call rfl Try.call49 rfl (goodCells_spec _ (by first | assumption | omega)) (evl_cons (ev_tmp rfl) evl_nil)) ?_
  refine sq_plain rfl rfl rfl (w_not rfl (ev_tmp rfl)) ?_
  refine sq_plain rfl rfl rfl (w_move rfl (ev_tmp rfl)) ?_
  refine sq_grd rfl rfl (guard_f rfl rfl rfl) (fun hc => w_move rfl (ev_tmp rfl)) ?_
  refine sq_grd rfl rfl (guard_f rfl rfl rfl) (fun hc => w_call rfl Try.call62 rfl (goodWrites_spec _ (by first | assumption | omega)) (evl_cons (ev_whn rfl hc) evl_nil)) ?_
  refine sq_grd rfl rfl (guard_f rfl rfl rfl) (fun hc => w_not rfl (ev_whn rfl hc)) ?_
  refine sq_plain rfl rfl rfl (w_or rfl (ev_tmp rfl) (evif_w rfl)) ?_
  refine sq_plain rfl rfl rfl (w_move rfl (ev_tmp rfl)) ?_
  refine sq_grd rfl rfl (guard_f rfl rfl rfl) (fun hc => w_move rfl (ev_tmp rfl)) ?_
  refine sq_grd rfl rfl (guard_f rfl rfl rfl) (fun hc => w_call rfl Try.call155 rfl (isTime_spec _) (evl_cons (ev_whn rfl hc) evl_nil)) ?_
  refine sq_grd rfl rfl (guard_f rfl rfl rfl) (fun hc => w_not rfl (ev_whn rfl hc)) ?_
  refine sq_plain rfl rfl rfl (w_or rfl (ev_tmp rfl) (evif_w rfl)) ?_
  refine sq_nil ?_
  refine awp_cond (ev_tmp rfl) ?_ ?_
  · intro h20
    have he : putCellsR l w t = ([], false) := by unfold putCellsR; rw [if_pos h20]
    rw [he]
    refine awp_seq ?_
    refine awp_region ?_
    refine sq_plain rfl rfl rfl (w_assign rfl ev_cnils) ?_
    refine sq_plain rfl rfl rfl (w_assign rfl ev_cb) ?_
    refine sq_nil ?_
    refine awp_ret ?_
    refine retG_nil 153 2 ?_
    first | exact retG [0] ((Value.slice none 0 0), []) (rfl) rfl (by rfl) (resN rfl (by decide) (rv_cons (rv_tmp' rfl (by rfl)) (rv_cons (rv_tmp' rfl (by rfl)) rv_nil))) | exact retG [0] ((Value.slice none 0 0), x24.2) (ok24) rfl (by rfl) (resN rfl (by decide) (rv_cons (rv_tmp' rfl (by rfl)) (rv_cons (rv_tmp' rfl (by rfl)) rv_nil)))
  · intro h20
    have hg := h20
    simp only [Bool.or_eq_false_iff, Bool.not_eq_false'] at hg
    have hok := cellsOk_good hg.1.1
    have he : putCellsR l w t = putCells l w t := by unfold putCellsR; rw [if_neg (by rw [h20]; decide)]
    rw [he]
    refine awp_skip ?_
    refine awp_seq ?_
    refine awp_region ?_
    refine sq_plain rfl rfl rfl (w_move rfl (ev_tmp rfl)) ?_
    refine sq_plain rfl rfl rfl (w_move rfl (ev_tmp rfl)) ?_
    refine sq_plain rfl rfl rfl (w_move rfl (ev_tmp rfl)) ?_
    refine sq_callGT [] 0 1 ([]) ([]) (fun zz => nin TCell.ow (putCells l w t).1 zz.2) rfl rfl rfl rfl Try.call156 rfl rfl (show List.Perm ([]) (([]) ++ ([])) from List.Perm.refl _) (putCells_own l w t hok hs hw) (evl_cons (ev_tmp rfl) (evl_cons (ev_tmp rfl) (evl_cons (ev_tmp rfl) evl_nil))) (fun a => perm_lin) ?_
    intro x24 ok24
    refine sq_plain rfl rfl rfl (w_extract rfl (ev_tmp rfl) rfl) ?_
    refine sq_plain rfl rfl rfl (w_extract rfl (ev_tmp rfl) rfl) ?_
    refine sq_plain rfl rfl rfl (w_assign rfl (ev_tmp rfl)) ?_
    refine sq_plain rfl rfl rfl (w_assign rfl (ev_tmp rfl)) ?_
    refine sq_nil ?_
    refine awp_ret ?_
    first | exact retG [0] (x24.1, []) (rfl) rfl (by rfl) (resN rfl (by decide) (rv_cons (rv_tmp' rfl (by rfl)) (rv_cons (rv_tmp' rfl (by rfl)) rv_nil))) | exact retGT [0] 0 (nin TCell.ow (putCells l w t).1 x24.2) [] (x24.1, []) (rfl) rfl (show List.Perm (nin TCell.ow (putCells l w t).1 x24.2) ((nin TCell.ow (putCells l w t).1 x24.2) ++ []) from perm_nil) (by rfl) (resN rfl (by decide) (rv_cons (rv_tmp' rfl (by rfl)) (rv_cons (rv_tmp' rfl (by rfl)) rv_nil))) | exact retGT [0] 0 (nin TCell.ow (putCells l w t).1 x24.2) [] (x24.1, x24.2) (ok24) rfl (show List.Perm (nin TCell.ow (putCells l w t).1 x24.2) ((nin TCell.ow (putCells l w t).1 x24.2) ++ []) from perm_nil) (by rfl) (resN rfl (by decide) (rv_cons (rv_tmp' rfl (by rfl)) (rv_cons (rv_tmp' rfl (by rfl)) rv_nil)))
theorem feedCells_own (l : List TCell) (w : List TFeedItem) (g : Int) (hs : sizeL TCell.size l ≤ 1048576) (hw : sizeL TFeedItem.size w ≤ 1048576) : GSpec Try.prog 78 [AV.list 2 (l.map TCell.cs), AV.list 5 (w.map TFeedItem.cs), AV.int g] [] (fun x : Value × List Value => x.2.length = (feedCells l w g).1.length) (fun x => .arr x.1 153 2 (nrows TCell.ocs (feedCells l w g).1 x.2) :: nin TCell.ow (feedCells l w g).1 x.2) (fun x => AV.tup [AV.is x.1, AV.bool (feedCells l w g).2]) := by
  have hwl : w.length ≤ 1048576 := Nat.le_trans sizeL_len hw
  refine gspec_of_awp Try.func78 rfl Try.ntmps78 rfl ?_
  refine awp_seq ?_
  refine awp_region ?_
  refine sq_plain rfl rfl rfl (w_assign rfl ev_cnils) ?_
  refine sq_plain rfl rfl rfl (w_assign rfl ev_cb) ?_
  refine sq_nil ?_
  refine awp_seq ?_
  refine awp_seq ?_
  refine awp_region ?_
  refine sq_plain rfl rfl rfl (w_move rfl (ev_tmp rfl)) ?_
  refine sq_plain rfl rfl rfl (w_call rfl Try.call49 rfl (goodCells_spec _ (by first | assumption | omega)) (evl_cons (ev_tmp rfl) evl_nil)) ?_
  refine sq_plain rfl rfl rfl (w_not rfl (ev_tmp rfl)) ?_
  refine sq_plain rfl rfl rfl (w_move rfl (ev_tmp rfl)) ?_
  refine sq_grd rfl rfl (guard_f rfl rfl rfl) (fun hc => w_move rfl (ev_tmp rfl)) ?_
  refine sq_grd rfl rfl (guard_f rfl rfl rfl) (fun hc => w_call rfl Try.call105 rfl (goodFeed_spec _ (by assumption)) (evl_cons (ev_whn rfl hc) evl_nil)) ?_
  refine sq_grd rfl rfl (guard_f rfl rfl rfl) (fun hc => w_not rfl (ev_whn rfl hc)) ?_
  refine sq_plain rfl rfl rfl (w_or rfl (ev_tmp rfl) (evif_w rfl)) ?_
  refine sq_plain rfl rfl rfl (w_move rfl (ev_tmp rfl)) ?_
  refine sq_grd rfl rfl (guard_f rfl rfl rfl) (fun hc => w_move rfl (ev_tmp rfl)) ?_
  refine sq_grd rfl rfl (guard_f rfl rfl rfl) (fun hc => w_call rfl Try.call179 rfl (isGroup_spec _) (evl_cons (ev_whn rfl hc) evl_nil)) ?_
  refine sq_grd rfl rfl (guard_f rfl rfl rfl) (fun hc => w_not rfl (ev_whn rfl hc)) ?_
  refine sq_plain rfl rfl rfl (w_or rfl (ev_tmp rfl) (evif_w rfl)) ?_
  refine sq_nil ?_
  refine awp_cond (ev_tmp rfl) ?_ ?_
  · intro h25
    have he : feedCells l w g = ([], false) := by unfold feedCells; rw [if_pos h25]
    rw [he]
    refine awp_seq ?_
    refine awp_region ?_
    refine sq_plain rfl rfl rfl (w_assign rfl ev_cnils) ?_
    refine sq_plain rfl rfl rfl (w_assign rfl ev_cb) ?_
    refine sq_nil ?_
    refine awp_ret ?_
    refine retG_nil 153 2 ?_
    first | exact retG [0] ((Value.slice none 0 0), []) (rfl) rfl (by rfl) (resN rfl (by decide) (rv_cons (rv_tmp' rfl (by rfl)) (rv_cons (rv_tmp' rfl (by rfl)) rv_nil))) | exact retG [0] ((Value.slice none 0 0), xs) (hinv.2.1) rfl (by rfl) (resN rfl (by decide) (rv_cons (rv_tmp' rfl (by rfl)) (rv_cons (rv_tmp' rfl (by rfl)) rv_nil)))
  · intro h25
    have hg := h25
    simp only [Bool.or_eq_false_iff, Bool.not_eq_false'] at hg
    have he : feedCells l w g = feedRes l g w := by unfold feedCells; rw [if_neg (by rw [h25]; decide)]
    refine awp_skip ?_
    refine awp_seq ?_
    refine awp_region ?_
    refine sq_plain rfl rfl rfl (w_move rfl (ev_tmp rfl)) ?_
    refine sq_callGT [] 0 1 ([]) ([]) (fun zz => nin TCell.ow l zz.2) rfl rfl rfl rfl Try.call180 rfl rfl (show List.Perm ([]) (([]) ++ ([])) from List.Perm.refl _) (copyCells_own l (by omega)) (evl_cons (ev_tmp rfl) evl_nil) (fun a => perm_lin) ?_
    intro x27 ok27
    refine sq_plain rfl rfl rfl (w_assign rfl (ev_tmp rfl)) ?_
    refine sq_nil ?_
    refine awp_seq ?_
    refine awp_seq ?_
    refine awp_region ?_
    refine sq_plain rfl rfl rfl (w_move rfl (ev_tmp rfl)) ?_
    refine sq_plain rfl rfl rfl (w_llen rfl Try.underlying87 (ev_tmp rfl)) ?_
    refine sq_plain rfl rfl rfl (w_move rfl ev_ci) ?_
    refine sq_nil ?_
    refine awp_block ?_
    refine awp_loop_i4 [(2, _), (28, _), (29, _)] [] (fun (i : Nat) (v : Value) (q : List TCell) (xs : List Value) => i ≤ w.length ∧ xs.length = q.length ∧ goodCells q = true ∧ feedRes l g w = feedRes q g (w.drop i)) (fun (i : Nat) (v : Value) (q : List TCell) (xs : List Value) => [.arr v 153 2 (nrows TCell.ocs q xs)] ++ (nin TCell.ow q xs)) (fun (i : Nat) (v : Value) (q : List TCell) (xs : List Value) => [(8, AV.is v), (30, AV.int i)]) (fun (i : Nat) (v : Value) (q : List TCell) (xs : List Value) => w.length - i) (0) (x27.1) (l) (x27.2) ?_ (le_eq (by rw [List.append_nil]; rfl) ⟨rfl, rfl, rfl, rfl, rfl, trivial⟩) ?_
    · exact ⟨Nat.zero_le _, ok27, hg.1.1, rfl⟩
    intro i v q xs hinv
    have hlen := hinv.2.1
    have hqs := good_size hinv.2.2.1
    refine awp_own (List.append_nil _) ?_
    refine awp_seq ?_
    refine awp_region ?_
    refine sq_plain rfl rfl rfl (w_lss rfl (ev_tmp rfl) (ev_tmp rfl)) ?_
    refine sq_nil ?_
    refine awp_seq ?_
    refine awp_cond (ev_tmp rfl) ?_ ?_
    · intro h31
      have k31 := of_decide_eq_true h31; try simp only [List.length_map] at k31
      have hlt : i < w.length := by omega
      obtain ⟨x, hx⟩ := get_some hlt
      have hgi := feed_item hg.1.2 hx
      have hws := wOf_size hgi
      refine awp_skip ?_
      refine awp_seq ?_
      refine awp_block ?_
      refine awp_seq ?_
      refine awp_region ?_
      refine sq_plain rfl rfl rfl (w_idxm rfl Try.underlying87 Try.sizeOf179 (ev_tmp rfl) (ev_tmp rfl) hx (by first | omega | ((try simp only [List.length_map, List.length_take, List.length_cons, List.length_nil, chunks_len, szR] at *); omega) | (have hc2 := hc; simp only [Bool.and_eq_true, Bool.or_eq_true, Bool.or_eq_false_iff, Bool.and_eq_false_iff, Bool.not_eq_true', Bool.not_eq_false', decide_eq_true_eq, decide_eq_false_iff_not, beq_iff_eq, bne_iff_ne, List.length_map, List.length_take] at hc2; omega))) ?_
      refine sq_plain rfl rfl rfl (w_loadE rfl (ev_tmp rfl) Try.isAgg179 Try.sizeOf179) ?_
      refine sq_alloc rfl rfl rfl rfl Try.zeroValue179 rfl ?_
      intro b10
      refine sq_storeB0 0 rfl rfl rfl (ev_tmp rfl) (ev_tmp rfl) (as_agg _) rfl Try.sizeOf179 rfl ?_
      refine sq_nil ?_
      refine awp_seq ?_
      refine awp_seq ?_
      refine awp_region ?_
      refine sq_plain rfl rfl rfl (w_fldBn 1 rfl Try.underlying179 rfl Try.sizeOf3 (ev_tmp rfl) rfl) ?_
      refine sq_plain rfl rfl rfl (w_loadB1 0 rfl (ev_tmp rfl) rfl Try.isAgg3 rfl) ?_
      refine sq_plain rfl rfl rfl (w_move rfl (ev_tmp rfl)) ?_
      refine sq_plain rfl rfl rfl (w_neq rfl (ev_tmp rfl) (ev_tmp rfl)) ?_
      refine sq_nil ?_
      refine awp_cond (ev_tmp rfl) ?_ ?_
      · intro h37
        have k37 := ne_of_bne h37; try simp only [List.length_map] at k37
        refine awp_exit ?_
        refine awp_region ?_
        refine sq_plain rfl rfl rfl (w_addi rfl (ev_tmp rfl) ev_ci (by first | omega | ((try simp only [List.length_map, List.length_take, List.length_cons, List.length_nil, chunks_len, szR] at *); omega) | (have hc2 := hc; simp only [Bool.and_eq_true, Bool.or_eq_true, Bool.or_eq_false_iff, Bool.and_eq_false_iff, Bool.not_eq_true', Bool.not_eq_false', decide_eq_true_eq, decide_eq_false_iff_not, beq_iff_eq, bne_iff_ne, List.length_map, List.length_take] at hc2; omega))) ?_
        refine sq_plain rfl rfl rfl (w_move rfl (ev_tmp rfl)) ?_
        refine sq_nil ?_
        refine round_end4 i v q xs (i + 1) (v) (q) (xs) ?_ ?_ (Le.trans (le_pick [0, 0] rfl) (le_dropeq 1 (Eq.trans (by rfl) (List.append_nil _).symm) ⟨rfl, rfl, rfl, rfl, rfl, trivial⟩))
        · exact ⟨by omega, hlen, hinv.2.2.1, feedRes_skip hinv.2.2.2 hx k37⟩
        · omega
      · intro h37
        have k37 := eq_of_bne_false h37; try simp only [List.length_map] at k37
        refine awp_skip ?_
        refine awp_seq ?_
        refine awp_region ?_
        refine sq_plain rfl rfl rfl (w_move rfl (ev_tmp rfl)) ?_
        refine sq_plain rfl rfl rfl (w_fldBn 2 rfl Try.underlying179 rfl Try.sizeOf9 (ev_tmp rfl) rfl) ?_
        refine sq_plain rfl rfl rfl (w_loadB1 0 rfl (ev_tmp rfl) rfl Try.isAgg9 rfl) ?_
        refine sq_plain rfl rfl rfl (w_fldBn 3 rfl Try.underlying179 rfl Try.sizeOf9 (ev_tmp rfl) rfl) ?_
        refine sq_plain rfl rfl rfl (w_loadB1 0 rfl (ev_tmp rfl) rfl Try.isAgg9 rfl) ?_
        refine sq_plain rfl rfl rfl (w_fldBn 4 rfl Try.underlying179 rfl Try.sizeOf4 (ev_tmp rfl) rfl) ?_
        refine sq_plain rfl rfl rfl (w_loadB1 0 rfl (ev_tmp rfl) rfl Try.isAgg4 rfl) ?_
        refine sq_plain rfl rfl rfl (w_build (places := #[(0, 1), (1, 1), (2, 1)]) rfl Try.underlying65 Try.zeroValue65 (fun w => by kernel_rfl) rfl (bp_cons (ev_tmp rfl) (as_str _) (bp_cons (ev_tmp rfl) (as_str _) (bp_cons (ev_tmp rfl) (as_bool _) bp_nil))) rfl) ?_
        refine sq_plain rfl rfl rfl (w_bslice rfl Try.underlying60 Try.sizeOf65 Try.zeroValue65 rfl rfl rfl rfl (bp_cons (ev_tmp rfl) (as_agg _) bp_nil) rfl rfl) ?_
        refine sq_plain rfl rfl rfl (w_fldBn 0 rfl Try.underlying179 rfl Try.sizeOf3 (ev_tmp rfl) rfl) ?_
        refine sq_plain rfl rfl rfl (w_loadB1 0 rfl (ev_tmp rfl) rfl Try.isAgg3 rfl) ?_
        refine sq_callGB [] rfl rfl rfl rfl Try.call156 rfl (putCells_own q (wOf x) x.Time (cellsOk_good hinv.2.2.1) (by omega) hws) rfl (evlb_cons (evb_lt (ev_tmp rfl) (nin_lend TCell.lcM (by first | exact hlen | exact hlen.trans (marksN_len _ _).symm) 1 rfl (fun o ho => List.mem_of_mem_drop (i := 2) (show o ∈ nin TCell.ow q xs from by first | exact ho | exact List.mem_append_left _ ho | exact List.mem_append_right _ ho | exact List.mem_append_right _ (List.mem_append_left _ ho) | exact List.mem_append_right _ (List.mem_append_right _ ho))))) (evlb_cons (evb (ev_tmp rfl)) (evlb_cons (evb (ev_tmp rfl)) evlb_nil))) (by first | exact flatO_nil | (intro _; exact flatO_nil) | (intro _; first | exact flat_is _ | exact flat_ik _ _ | exact flat_bool _ | exact flat_str _ | exact flat_nils) | (intro _; refine flat_tup ?_; (repeat (first | exact flatl_nil | (refine flatl_cons (by first | (first | exact flat_is _ | exact flat_ik _ _ | exact flat_bool _ | exact flat_str _ | exact flat_nils) | (refine flat_agg ?_; (repeat (first | exact flatl_nil | (refine flatl_cons (by first | exact flat_is _ | exact flat_ik _ _ | exact flat_bool _ | exact flat_str _ | exact flat_nils) ?_))))) ?_))); done) | (intro _; refine flat_agg ?_; (repeat (first | exact flatl_nil | (refine flatl_cons (by first | exact flat_is _ | exact flat_ik _ _ | exact flat_bool _ | exact flat_str _ | exact flat_nils) ?_))); done) | ((repeat (first | exact flatO_nil | (refine flatO_cons (flatO_box ?_) ?_; (repeat (first | exact flatl_nil | (refine flatl_cons (by first | exact flat_is _ | exact flat_ik _ _ | exact flat_bool _ | exact flat_str _ | exact flat_nils) ?_)))) | (refine flatO_cons (flatO_arr ?_) ?_; (repeat (first | exact flate_nil | (refine flate_map (fun _ => ?_); (first | exact TWrite.flat _ | exact TFeedItem.flat _ | exact TIdx.flat _ | exact TVer.flat _ | (repeat (first | exact flatl_nil | (refine flatl_cons (by first | exact flat_is _ | exact flat_ik _ _ | exact flat_bool _ | exact flat_str _ | exact flat_nils) ?_))))) | (refine flate_rep ?_; (first | exact TWrite.flat _ | exact TFeedItem.flat _ | exact TIdx.flat _ | exact TVer.flat _ | (repeat (first | exact flatl_nil | (refine flatl_cons (by first | exact flat_is _ | exact flat_ik _ _ | exact flat_bool _ | exact flat_str _ | exact flat_nils) ?_))))) | (refine flate_cons ?_ ?_; (first | exact TWrite.flat _ | exact TFeedItem.flat _ | exact TIdx.flat _ | exact TVer.flat _ | (repeat (first | exact flatl_nil | (refine flatl_cons (by first | exact flat_is _ | exact flat_ik _ _ | exact flat_bool _ | exact flat_str _ | exact flat_nils) ?_))))) | refine flate_app ?_ ?_))))); done) | (intro _; (repeat (first | exact flatO_nil | (refine flatO_cons (flatO_box ?_) ?_; (repeat (first | exact flatl_nil | (refine flatl_cons (by first | exact flat_is _ | exact flat_ik _ _ | exact flat_bool _ | exact flat_str _ | exact flat_nils) ?_)))) | (refine flatO_cons (flatO_arr ?_) ?_; (repeat (first | exact flate_nil | (refine flate_map (fun _ => ?_); (first | exact TWrite.flat _ | exact TFeedItem.flat _ | exact TIdx.flat _ | exact TVer.flat _ | (repeat (first | exact flatl_nil | (refine flatl_cons (by first | exact flat_is _ | exact flat_ik _ _ | exact flat_bool _ | exact flat_str _ | exact flat_nils) ?_))))) | (refine flate_rep ?_; (first | exact TWrite.flat _ | exact TFeedItem.flat _ | exact TIdx.flat _ | exact TVer.flat _ | (repeat (first | exact flatl_nil | (refine flatl_cons (by first | exact flat_is _ | exact flat_ik _ _ | exact flat_bool _ | exact flat_str _ | exact flat_nils) ?_))))) | (refine flate_cons ?_ ?_; (first | exact TWrite.flat _ | exact TFeedItem.flat _ | exact TIdx.flat _ | exact TVer.flat _ | (repeat (first | exact flatl_nil | (refine flatl_cons (by first | exact flat_is _ | exact flat_ik _ _ | exact flat_bool _ | exact flat_str _ | exact flat_nils) ?_))))) | refine flate_app ?_ ?_))))); done)) (fun x => flat_tup (flatC_cons (flat_is _) (flatC_cons (flat_bool _) flatC_nil))) (fun x => flatO_cons (flatO_arr (nrows_flat TCell.flatC _ _)) (nin_flat TCell.flatW _ _)) ?_
        intro x50 ok50
        refine sq_le (le_mid (NT := nin TCell.ow (putCells q (wOf x) x.Time).1 x50.2 ++ (nin TCell.ow q xs)) 1 2 (List.Perm.refl _)) ?_
        refine sq_plain rfl rfl rfl (w_move rfl (ev_tmp rfl)) ?_
        refine sq_plain rfl rfl rfl (w_extract rfl (ev_tmp rfl) rfl) ?_
        refine sq_plain rfl rfl rfl (w_extract rfl (ev_tmp rfl) rfl) ?_
        refine sq_plain rfl rfl rfl (w_assign rfl (ev_tmp rfl)) ?_
        refine sq_plain rfl rfl rfl (w_assign rfl (ev_tmp rfl)) ?_
        refine sq_nil ?_
        refine awp_seq ?_
        refine awp_seq ?_
        refine awp_region ?_
        refine sq_plain rfl rfl rfl (w_move rfl (ev_tmp rfl)) ?_
        refine sq_plain rfl rfl rfl (w_not rfl (ev_tmp rfl)) ?_
        refine sq_nil ?_
        refine awp_cond (ev_tmp rfl) ?_ ?_
        · intro h54
          rw [he, feedRes_stop hinv.2.2.2 hx k37 (by simpa using h54)]
          refine awp_seq ?_
          refine awp_region ?_
          refine sq_plain rfl rfl rfl (w_assign rfl ev_cnils) ?_
          refine sq_plain rfl rfl rfl (w_assign rfl ev_cb) ?_
          refine sq_nil ?_
          refine awp_ret ?_
          refine retG_nil 153 2 ?_
          first | exact retG [0] ((Value.slice none 0 0), []) (rfl) rfl (by rfl) (resN rfl (by decide) (rv_cons (rv_tmp' rfl (by rfl)) (rv_cons (rv_tmp' rfl (by rfl)) rv_nil))) | exact retGT [0] 3 (nin TCell.ow q xs) [] ((Value.slice none 0 0), []) (rfl) rfl (show List.Perm (nin TCell.ow q xs) ((nin TCell.ow q xs) ++ []) from perm_nil) (by rfl) (resN rfl (by decide) (rv_cons (rv_tmp' rfl (by rfl)) (rv_cons (rv_tmp' rfl (by rfl)) rv_nil))) | exact retG [0] ((Value.slice none 0 0), xs) (hinv.2.1) rfl (by rfl) (resN rfl (by decide) (rv_cons (rv_tmp' rfl (by rfl)) (rv_cons (rv_tmp' rfl (by rfl)) rv_nil))) | exact retGT [0] 3 (nin TCell.ow q xs) [] ((Value.slice none 0 0), xs) (hinv.2.1) rfl (show List.Perm (nin TCell.ow q xs) ((nin TCell.ow q xs) ++ []) from perm_nil) (by rfl) (resN rfl (by decide) (rv_cons (rv_tmp' rfl (by rfl)) (rv_cons (rv_tmp' rfl (by rfl)) rv_nil)))
        · intro h54
          have h54' : (putCells q (wOf x) x.Time).2 = true := by simpa using h54
          refine awp_skip ?_
          refine AWP.le (le_cut 3 (t := nin TCell.ow (putCells q (wOf x) x.Time).1 x50.2) (r := nin TCell.ow q xs) (List.Perm.refl _)) ?_
          refine awp_region ?_
          refine sq_plain rfl rfl rfl (w_move rfl (ev_tmp rfl)) ?_
          refine sq_plain rfl rfl rfl (w_assign rfl (ev_tmp rfl)) ?_
          refine sq_nil ?_
          refine awp_region ?_
          refine sq_plain rfl rfl rfl (w_addi rfl (ev_tmp rfl) ev_ci (by first | omega | ((try simp only [List.length_map, List.length_take, List.length_cons, List.length_nil, chunks_len, szR] at *); omega) | (have hc2 := hc; simp only [Bool.and_eq_true, Bool.or_eq_true, Bool.or_eq_false_iff, Bool.and_eq_false_iff, Bool.not_eq_true', Bool.not_eq_false', decide_eq_true_eq, decide_eq_false_iff_not, beq_iff_eq, bne_iff_ne, List.length_map, List.length_take] at hc2; omega))) ?_
          refine sq_plain rfl rfl rfl (w_move rfl (ev_tmp rfl)) ?_
          refine sq_nil ?_
          refine round_end4 i v q xs (i + 1) (x50.1) ((putCells q (wOf x) x.Time).1) (x50.2) ?_ ?_ (Le.trans (le_pick [1, 1, 0] rfl) (le_dropeq 2 (Eq.trans (by rfl) (List.append_nil _).symm) ⟨rfl, rfl, rfl, rfl, rfl, trivial⟩))
          · exact ⟨by omega, ok50, put_good h54', feedRes_put hinv.2.2.2 hx k37 h54'⟩
          · omega
    · intro h31
      have k31 := of_decide_eq_false h31; try simp only [List.length_map] at k31
      have hge : w.length ≤ i := by omega
      have hr := feedRes_end hinv.2.2.2 hge
      rw [he, hr]
      refine awp_exit ?_
      refine awp_seq ?_
      refine awp_region ?_
      refine sq_plain rfl rfl rfl (w_move rfl (ev_tmp rfl)) ?_
      refine sq_plain rfl rfl rfl (w_assign rfl (ev_tmp rfl)) ?_
      refine sq_plain rfl rfl rfl (w_assign rfl ev_cb) ?_
      refine sq_nil ?_
      refine awp_ret ?_
      first | exact retG [0] (v, []) (rfl) rfl (by rfl) (resN rfl (by decide) (rv_cons (rv_tmp' rfl (by rfl)) (rv_cons (rv_tmp' rfl (by rfl)) rv_nil))) | exact retGT [0] 0 (nin TCell.ow q xs) [] (v, []) (rfl) rfl (show List.Perm (nin TCell.ow q xs) ((nin TCell.ow q xs) ++ []) from perm_nil) (by rfl) (resN rfl (by decide) (rv_cons (rv_tmp' rfl (by rfl)) (rv_cons (rv_tmp' rfl (by rfl)) rv_nil))) | exact retGT [0] 0 (nin TCell.ow q xs) [] (v, xs) (hinv.2.1) rfl (show List.Perm (nin TCell.ow q xs) ((nin TCell.ow q xs) ++ []) from perm_nil) (by rfl) (resN rfl (by decide) (rv_cons (rv_tmp' rfl (by rfl)) (rv_cons (rv_tmp' rfl (by rfl)) rv_nil)))
end Go.Proofs.Yteliahajeokciaa
