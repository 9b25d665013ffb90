/- Walks: shard maps, their changes. -/
import Derived.Test.YtdbmaekdejhobaaPlacesM
import Derived.Test.YtdbmaekdejhobaaMove2W
import Derived.Test.YtdbmaekdejhobaaMarkW
import Derived.Test.YtdbmaekdejhobaaSlicesW
set_option linter.unusedVariables false
set_option linter.unusedSimpArgs false
set_option maxRecDepth 100000
namespace Go.Proofs.Ytdbmaekdejhobaa
open Go Go.AV Go.M
attribute [local irreducible] OpW OpA OpS AWP FSpec ESpec GSpec OpE RetOk RetOkG RvDen Le Ev GuardIs SrcIs
theorem cuts_ok {p : TPlaces} (hs : p.size ≤ 4194304) : ∀ k ∈ p.Cuts, k.length ≤ 4611686018427387904 := fun k hk => by
  have h1 := sizeL_mem (f := fun x : Str => x.length) hk
  unfold TPlaces.size at hs
  omega
theorem goodPlaces1_spec (g : Int) : FSpec Try.prog 116 [AV.int g] (AV.bool (!isGroup g)) := by
  refine spec_of_awp Try.func116 rfl Try.ntmps116 rfl ?_
  refine awp_seq ?_
  refine awp_region ?_
  refine sq_plain rfl rfl rfl (w_assign rfl ev_cb) ?_
  refine sq_nil ?_
  refine awp_seq ?_
  refine awp_region ?_
  refine sq_plain rfl rfl rfl (w_move rfl (ev_tmp rfl)) ?_
  refine sq_plain rfl rfl rfl (w_call rfl Try.call106 rfl (isGroup_spec _) (evl_cons (ev_tmp rfl) evl_nil)) ?_
  refine sq_plain rfl rfl rfl (w_not rfl (ev_tmp rfl)) ?_
  refine sq_plain rfl rfl rfl (w_assign rfl (ev_tmp rfl)) ?_
  refine sq_nil ?_
  refine awp_ret ?_
  exact retR rfl (rv_tmp' rfl (by first | rfl | (refine congrArg AV.bool ?_; simp_all; done)))
theorem goodPlaces_spec (p : TPlaces) (hs : p.size ≤ 4194304) : FSpec Try.prog 34 [AV.agg p.cs] (AV.bool (goodPlaces p)) := by
  have hc := cuts_ok hs
  have hs' := hs; unfold TPlaces.size at hs'
  have hl : p.Cuts.length ≤ 4194304 := Nat.le_trans sizeL_len (show sizeL (fun x : Str => x.length) p.Cuts ≤ 4194304 by omega)
  refine spec_of_awp Try.func34 rfl Try.ntmps34 rfl ?_
  refine awp_seq ?_
  refine awp_region ?_
  refine sq_box rfl rfl rfl rfl (ev_tmp rfl) ?_
  intro b1
  refine sq_plain rfl rfl rfl (w_assign rfl ev_cb) ?_
  refine sq_nil ?_
  refine awp_seq ?_
  refine awp_region ?_
  refine sq_plain rfl rfl rfl (w_fldBn 0 rfl Try.underlying57 rfl Try.sizeOf3 (ev_tmp rfl) rfl) ?_
  refine sq_plain rfl rfl rfl (w_loadB1 0 rfl (ev_tmp rfl) rfl Try.isAgg3 rfl) ?_
  refine sq_plain rfl rfl rfl (w_call rfl Try.call113 rfl (within_spec _ _ _) (evl_cons (ev_tmp rfl) (evl_cons ev_ci (evl_cons ev_ci evl_nil)))) ?_
  refine sq_plain rfl rfl rfl (w_move rfl (ev_tmp rfl)) ?_
  refine sq_grd rfl rfl (guard_t rfl rfl rfl) (fun hc => w_fldBn 1 rfl Try.underlying57 rfl Try.sizeOf52 (ev_tmp rfl) rfl) ?_
  refine sq_grd rfl rfl (guard_t rfl rfl rfl) (fun hc => w_loadB1 0 rfl (ev_whn rfl hc) rfl Try.isAgg52 rfl) ?_
  refine sq_grd rfl rfl (guard_t rfl rfl rfl) (fun hc => w_llen rfl Try.underlying52 (ev_whn rfl hc)) ?_
  refine sq_grd rfl rfl (guard_t rfl rfl rfl) (fun hc => w_leq rfl (ev_whn rfl hc) ev_ci) ?_
  refine sq_plain rfl rfl rfl (w_and rfl (ev_tmp rfl) (evif_w rfl)) ?_
  refine sq_plain rfl rfl rfl (w_move rfl (ev_tmp rfl)) ?_
  refine sq_grd rfl rfl (guard_t rfl rfl rfl) (fun hc => w_fldBn 1 rfl Try.underlying57 rfl Try.sizeOf52 (ev_tmp rfl) rfl) ?_
  refine sq_grd rfl rfl (guard_t rfl rfl rfl) (fun hc => w_loadB1 0 rfl (ev_whn rfl hc) rfl Try.isAgg52 rfl) ?_
  refine sq_grd rfl rfl (guard_t rfl rfl rfl) (fun hc => w_call rfl Try.call114 rfl (areRising_spec _ (cuts_ok hs)) (evl_cons (ev_whn rfl hc) evl_nil)) ?_
  refine sq_plain rfl rfl rfl (w_and rfl (ev_tmp rfl) (evif_w rfl)) ?_
  refine sq_plain rfl rfl rfl (w_move rfl (ev_tmp rfl)) ?_
  refine sq_grd rfl rfl (guard_t rfl rfl rfl) (fun hc => w_fldBn 2 rfl Try.underlying57 rfl Try.sizeOf55 (ev_tmp rfl) rfl) ?_
  refine sq_grd rfl rfl (guard_t rfl rfl rfl) (fun hc => w_loadB1 0 rfl (ev_whn rfl hc) rfl Try.isAgg55 rfl) ?_
  refine sq_grd rfl rfl (guard_t rfl rfl rfl) (fun hc => w_llen rfl Try.underlying55 (ev_whn rfl hc)) ?_
  refine sq_grd rfl rfl (guard_t rfl rfl rfl) (fun hc => w_fldBn 1 rfl Try.underlying57 rfl Try.sizeOf52 (ev_tmp rfl) rfl) ?_
  refine sq_grd rfl rfl (guard_t rfl rfl rfl) (fun hc => w_loadB1 0 rfl (ev_whn rfl hc) rfl Try.isAgg52 rfl) ?_
  refine sq_grd rfl rfl (guard_t rfl rfl rfl) (fun hc => w_llen rfl Try.underlying52 (ev_whn rfl hc)) ?_
  refine sq_grd rfl rfl (guard_t rfl rfl rfl) (fun hc => w_addi rfl (ev_whn rfl hc) ev_ci (by simp only [List.length_map]; omega)) ?_
  refine sq_grd rfl rfl (guard_t rfl rfl rfl) (fun hc => w_eql rfl (ev_whn rfl hc) (ev_whn rfl hc)) ?_
  refine sq_plain rfl rfl rfl (w_and rfl (ev_tmp rfl) (evif_w rfl)) ?_
  refine sq_plain rfl rfl rfl (w_move rfl (ev_tmp rfl)) ?_
  refine sq_grd rfl rfl (guard_t rfl rfl rfl) (fun hc => w_fldBn 2 rfl Try.underlying57 rfl Try.sizeOf55 (ev_tmp rfl) rfl) ?_
  refine sq_grd rfl rfl (guard_t rfl rfl rfl) (fun hc => w_loadB1 0 rfl (ev_whn rfl hc) rfl Try.isAgg55 rfl) ?_
  refine sq_grd rfl rfl (guard_t rfl rfl rfl) (fun hc => w_call rfl Try.call115 rfl (containsFuncInt_spec _ _ _ (by first | (intros; trivial) | assumption | (intros; first | trivial | (simp_all; done)))) (evl_cons (ev_whn rfl hc) (evl_cons (ev_fun1 Try.call116 (fun g (_ : True) => goodPlaces1_spec g)) evl_nil))) ?_
  refine sq_grd rfl rfl (guard_t rfl rfl rfl) (fun hc => w_not rfl (ev_whn rfl hc)) ?_
  refine sq_plain rfl rfl rfl (w_and rfl (ev_tmp rfl) (evif_w rfl)) ?_
  refine sq_plain rfl rfl rfl (w_assign rfl (ev_tmp rfl)) ?_
  refine sq_nil ?_
  refine awp_ret ?_
  exact retR rfl (rv_tmp' rfl (by exact congrArg AV.bool (by unfold goodPlaces; simp only [List.length_map])))
theorem l1All_spec (l : List Int) (a b : Int) : FSpec Try.prog 117 [ints l, AV.int a, AV.int b] (AV.bool (l.all fun g => within g a b)) := by
  refine spec_of_awp Try.func117 rfl Try.ntmps117 rfl ?_
  refine awp_len (t := 0) rfl fun hl => ?_
  try simp only [List.length_map] at hl
  refine awp_seq ?_
  refine awp_region ?_
  refine sq_plain rfl rfl rfl (w_assign rfl ev_cb) ?_
  refine sq_nil ?_
  refine awp_seq ?_
  refine awp_seq ?_
  refine awp_region ?_
  refine sq_plain rfl rfl rfl (w_move rfl (ev_tmp rfl)) ?_
  refine sq_plain rfl rfl rfl (w_llen rfl Try.underlying55 (ev_tmp rfl)) ?_
  refine sq_plain rfl rfl rfl (w_move rfl ev_ci) ?_
  refine sq_nil ?_
  refine awp_block ?_
  refine awp_loop_i [(1, _), (2, _), (9, _), (10, _)] _ (fun (i : Nat) => i ≤ l.length ∧ (l.all fun g => within g a b) = ((l.drop i).all fun g => within g a b)) (fun (i : Nat) => []) (fun (i : Nat) => [(11, AV.int i)]) (fun (i : Nat) => l.length - i) (0) ?_ (le_env ⟨rfl, rfl, rfl, rfl, rfl, trivial⟩) ?_
  · exact ⟨Nat.zero_le _, rfl⟩
  intro i hinv
  refine awp_seq ?_
  refine awp_region ?_
  refine sq_plain rfl rfl rfl (w_lss rfl (ev_tmp rfl) (ev_tmp rfl)) ?_
  refine sq_nil ?_
  refine awp_seq ?_
  refine awp_cond (ev_tmp rfl) ?_ ?_
  · intro h12
    have k12 := of_decide_eq_true h12; try simp only [List.length_map] at k12
    have hlt : i < l.length := by omega
    obtain ⟨x, hx⟩ := get_some hlt
    refine awp_skip ?_
    refine awp_seq ?_
    refine awp_block ?_
    refine awp_seq ?_
    refine awp_region ?_
    refine sq_plain rfl rfl rfl (w_idxm rfl Try.underlying55 Try.sizeOf3 (ev_tmp rfl) (ev_tmp rfl) hx (by first | omega | ((try simp only [List.length_map, List.length_take, List.length_cons, List.length_nil, chunks_len, szR] at *); omega) | (have hc2 := hc; simp only [Bool.and_eq_true, Bool.or_eq_true, Bool.or_eq_false_iff, Bool.and_eq_false_iff, Bool.not_eq_true', Bool.not_eq_false', decide_eq_true_eq, decide_eq_false_iff_not, beq_iff_eq, bne_iff_ne, List.length_map, List.length_take] at hc2; omega))) ?_
    refine sq_plain rfl rfl rfl (w_loadE1 rfl (ev_tmp rfl) Try.isAgg3 rfl) ?_
    refine sq_plain rfl rfl rfl (w_assign rfl (ev_tmp rfl)) ?_
    refine sq_nil ?_
    refine awp_seq ?_
    refine awp_region ?_
    refine sq_plain rfl rfl rfl (w_move rfl (ev_tmp rfl)) ?_
    refine sq_plain rfl rfl rfl (w_move rfl (ev_tmp rfl)) ?_
    refine sq_plain rfl rfl rfl (w_move rfl (ev_tmp rfl)) ?_
    refine sq_plain rfl rfl rfl (w_call rfl Try.call107 rfl (l1In_spec _ _ _) (evl_cons (ev_tmp rfl) (evl_cons (ev_tmp rfl) (evl_cons (ev_tmp rfl) evl_nil)))) ?_
    refine sq_plain rfl rfl rfl (w_not rfl (ev_tmp rfl)) ?_
    refine sq_nil ?_
    refine awp_cond (ev_tmp rfl) ?_ ?_
    · intro h19
      refine awp_seq ?_
      refine awp_region ?_
      refine sq_plain rfl rfl rfl (w_assign rfl ev_cb) ?_
      refine sq_nil ?_
      refine awp_ret ?_
      exact retR rfl (rv_tmp' rfl (by first | exact congrArg AV.bool (by rw [hinv.2, all_stop hx (by simpa using h19)]) | exact congrArg AV.bool (by rw [hinv.2, all_end hge])))
    · intro h19
      refine awp_skip ?_
      refine awp_region ?_
      refine sq_plain rfl rfl rfl (w_addi rfl (ev_tmp rfl) ev_ci (by first | omega | ((try simp only [List.length_map, List.length_take, List.length_cons, List.length_nil, chunks_len, szR] at *); omega) | (have hc2 := hc; simp only [Bool.and_eq_true, Bool.or_eq_true, Bool.or_eq_false_iff, Bool.and_eq_false_iff, Bool.not_eq_true', Bool.not_eq_false', decide_eq_true_eq, decide_eq_false_iff_not, beq_iff_eq, bne_iff_ne, List.length_map, List.length_take] at hc2; omega))) ?_
      refine sq_plain rfl rfl rfl (w_move rfl (ev_tmp rfl)) ?_
      refine sq_nil ?_
      refine round_end i (i + 1) ?_ ?_ (le_env ⟨rfl, rfl, rfl, rfl, rfl, trivial⟩)
      · exact ⟨by omega, by rw [hinv.2, all_step hx (by simpa using h19)]⟩
      · omega
  · intro h12
    have k12 := of_decide_eq_false h12; try simp only [List.length_map] at k12
    have hge : l.length ≤ i := by omega
    refine awp_exit ?_
    refine awp_seq ?_
    refine awp_region ?_
    refine sq_plain rfl rfl rfl (w_assign rfl ev_cb) ?_
    refine sq_nil ?_
    refine awp_ret ?_
    exact retR rfl (rv_tmp' rfl (by first | exact congrArg AV.bool (by rw [hinv.2, all_stop hx (by simpa using h19)]) | exact congrArg AV.bool (by rw [hinv.2, all_end hge])))
theorem goodPlacesS_spec (p : TPlaces) (hs : p.size ≤ 4194304) : FSpec Try.prog 35 [AV.agg p.cs] (AV.bool (goodPlacesS p)) := by
  have hco := cuts_ok hs
  have hs' := hs; unfold TPlaces.size at hs'
  have hl : p.Cuts.length ≤ 4194304 := Nat.le_trans sizeL_len (show sizeL (fun x : Str => x.length) p.Cuts ≤ 4194304 by omega)
  refine spec_of_awp Try.func35 rfl Try.ntmps35 rfl ?_
  refine awp_seq ?_
  refine awp_region ?_
  refine sq_box rfl rfl rfl rfl (ev_tmp rfl) ?_
  intro b1
  refine sq_plain rfl rfl rfl (w_assign rfl ev_cb) ?_
  refine sq_nil ?_
  refine awp_seq ?_
  refine awp_seq ?_
  refine awp_region ?_
  refine sq_plain rfl rfl rfl (w_fldBn 1 rfl Try.underlying57 rfl Try.sizeOf52 (ev_tmp rfl) rfl) ?_
  refine sq_plain rfl rfl rfl (w_loadB1 0 rfl (ev_tmp rfl) rfl Try.isAgg52 rfl) ?_
  refine sq_plain rfl rfl rfl (w_llen rfl Try.underlying52 (ev_tmp rfl)) ?_
  refine sq_plain rfl rfl rfl (w_move rfl ev_ci) ?_
  refine sq_nil ?_
  refine awp_block ?_
  refine awp_loop_i [(1, _), (6, _), (7, _)] _ (fun (i : Nat) => i ≤ p.Cuts.length ∧ (p.Cuts.all l3Key && adj Op.bytesLess p.Cuts) = ((p.Cuts.drop i).all l3Key && adj Op.bytesLess (p.Cuts.drop (i - 1)))) (fun (i : Nat) => []) (fun (i : Nat) => [(8, AV.int i)]) (fun (i : Nat) => p.Cuts.length - i) (0) ?_ (le_env ⟨rfl, rfl, rfl, rfl, trivial⟩) ?_
  · exact ⟨Nat.zero_le _, rfl⟩
  intro i hinv
  refine awp_seq ?_
  refine awp_region ?_
  refine sq_plain rfl rfl rfl (w_lss rfl (ev_tmp rfl) (ev_tmp rfl)) ?_
  refine sq_nil ?_
  refine awp_seq ?_
  refine awp_cond (ev_tmp rfl) ?_ ?_
  · intro h9
    have k9 := of_decide_eq_true h9; try simp only [List.length_map] at k9
    have hlt : i < p.Cuts.length := by omega
    obtain ⟨x, hx⟩ := get_some hlt
    obtain ⟨y, hy⟩ := get_some (show i - 1 < p.Cuts.length by omega)
    have hsx := hco x (List.mem_of_getElem? hx)
    refine awp_skip ?_
    refine awp_seq ?_
    refine awp_block ?_
    refine awp_seq ?_
    refine awp_region ?_
    refine sq_plain rfl rfl rfl (w_move rfl (ev_tmp rfl)) ?_
    refine sq_plain rfl rfl rfl (w_idxm rfl Try.underlying52 Try.sizeOf9 (ev_tmp rfl) (ev_tmp rfl) hx (by first | omega | ((try simp only [List.length_map, List.length_take, List.length_cons, List.length_nil, chunks_len, szR] at *); omega) | (have hc2 := hc; simp only [Bool.and_eq_true, Bool.or_eq_true, Bool.or_eq_false_iff, Bool.and_eq_false_iff, Bool.not_eq_true', Bool.not_eq_false', decide_eq_true_eq, decide_eq_false_iff_not, beq_iff_eq, bne_iff_ne, List.length_map, List.length_take] at hc2; omega))) ?_
    refine sq_plain rfl rfl rfl (w_loadE1 rfl (ev_tmp rfl) Try.isAgg9 rfl) ?_
    refine sq_plain rfl rfl rfl (w_assign rfl (ev_tmp rfl)) ?_
    refine sq_plain rfl rfl rfl (w_assign rfl (ev_tmp rfl)) ?_
    refine sq_nil ?_
    refine awp_seq ?_
    refine awp_region ?_
    refine sq_plain rfl rfl rfl (w_move rfl (ev_tmp rfl)) ?_
    refine sq_plain rfl rfl rfl (w_call rfl Try.call77 rfl (l3Key_spec _ (by omega)) (evl_cons (ev_tmp rfl) evl_nil)) ?_
    refine sq_plain rfl rfl rfl (w_not rfl (ev_tmp rfl)) ?_
    refine sq_plain rfl rfl rfl (w_move rfl (ev_tmp rfl)) ?_
    refine sq_grd rfl rfl (guard_f rfl rfl rfl) (fun hc => w_move rfl (ev_tmp rfl)) ?_
    refine sq_grd rfl rfl (guard_f rfl rfl rfl) (fun hc => w_gtr rfl (ev_whn rfl hc) ev_ci) ?_
    refine sq_grd rfl rfl (guard_f rfl rfl rfl) (fun hc => w_move rfl (ev_whn rfl hc)) ?_
    refine sq_grd rfl rfl (guard_wt rfl rfl rfl) (fun hc => w_fldBn 1 rfl Try.underlying57 rfl Try.sizeOf52 (ev_tmp rfl) rfl) ?_
    refine sq_grd rfl rfl (guard_wt rfl rfl rfl) (fun hc => w_loadB1 0 rfl (ev_whn rfl hc) rfl Try.isAgg52 rfl) ?_
    refine sq_grd rfl rfl (guard_wt rfl rfl rfl) (fun hc => w_move rfl (ev_tmp rfl)) ?_
    refine sq_grd rfl rfl (guard_wt rfl rfl rfl) (fun hc => w_subi rfl (ev_whn rfl hc) ev_ci (by first | omega | ((try simp only [List.length_map, List.length_take, List.length_cons, List.length_nil, chunks_len, szR] at *); omega) | (have hc2 := hc; simp only [Bool.and_eq_true, Bool.or_eq_true, Bool.or_eq_false_iff, Bool.and_eq_false_iff, Bool.not_eq_true', Bool.not_eq_false', decide_eq_true_eq, decide_eq_false_iff_not, beq_iff_eq, bne_iff_ne, List.length_map, List.length_take] at hc2; omega))) ?_
    refine sq_grd rfl rfl (guard_wt rfl rfl rfl) (fun hc => w_idxm rfl Try.underlying52 Try.sizeOf9 (ev_whn rfl hc) (ev_whn rfl hc) hy (by first | omega | ((try simp only [List.length_map, List.length_take, List.length_cons, List.length_nil, chunks_len, szR] at *); omega) | (have hc2 := hc; simp only [Bool.and_eq_true, Bool.or_eq_true, Bool.or_eq_false_iff, Bool.and_eq_false_iff, Bool.not_eq_true', Bool.not_eq_false', decide_eq_true_eq, decide_eq_false_iff_not, beq_iff_eq, bne_iff_ne, List.length_map, List.length_take] at hc2; omega))) ?_
    refine sq_grd rfl rfl (guard_wt rfl rfl rfl) (fun hc => w_loadE1 rfl (ev_whn rfl hc) Try.isAgg9 rfl) ?_
    refine sq_grd rfl rfl (guard_wt rfl rfl rfl) (fun hc => w_move rfl (ev_tmp rfl)) ?_
    refine sq_grd rfl rfl (guard_wt rfl rfl rfl) (fun hc => w_sgeq rfl (ev_whn rfl hc) (ev_whn rfl hc)) ?_
    refine sq_grd rfl rfl (guard_f rfl rfl rfl) (fun hc => w_and rfl (ev_whn rfl hc) (evif_w2 rfl hc)) ?_
    refine sq_plain rfl rfl rfl (w_or rfl (ev_tmp rfl) (evif_w rfl)) ?_
    refine sq_nil ?_
    refine awp_cond (ev_tmp rfl) ?_ ?_
    · intro h29
      have hfin : goodPlacesS p = false := by unfold goodPlacesS; rw [hinv.2]; cases hg : l3Key x with | false => (rw [all_stop hx hg]; simp) | true => (have hb : 0 < i ∧ Op.bytesLess y x = false := (by have := bytesLess_tri y x; simp_all; try grind); rw [adj_stop hx hy hb.1 hb.2]; simp)
      refine awp_seq ?_
      refine awp_region ?_
      refine sq_plain rfl rfl rfl (w_assign rfl ev_cb) ?_
      refine sq_nil ?_
      refine awp_ret ?_
      exact retR rfl (rv_tmp' rfl (by first | exact congrArg AV.bool hfin.symm | exact congrArg AV.bool (by unfold goodPlacesS; rw [hinv.2, all_end hge, adj_end hge]; simp only [List.length_map, Bool.true_and])))
    · intro h29
      have hg : l3Key x = true ∧ (0 < i → Op.bytesLess y x = true) := by have := bytesLess_tri y x; simp_all
      refine awp_skip ?_
      refine awp_region ?_
      refine sq_plain rfl rfl rfl (w_addi rfl (ev_tmp rfl) ev_ci (by first | omega | ((try simp only [List.length_map, List.length_take, List.length_cons, List.length_nil, chunks_len, szR] at *); omega) | (have hc2 := hc; simp only [Bool.and_eq_true, Bool.or_eq_true, Bool.or_eq_false_iff, Bool.and_eq_false_iff, Bool.not_eq_true', Bool.not_eq_false', decide_eq_true_eq, decide_eq_false_iff_not, beq_iff_eq, bne_iff_ne, List.length_map, List.length_take] at hc2; omega))) ?_
      refine sq_plain rfl rfl rfl (w_move rfl (ev_tmp rfl)) ?_
      refine sq_nil ?_
      refine round_end i (i + 1) ?_ ?_ (le_env ⟨rfl, rfl, rfl, rfl, trivial⟩)
      · exact ⟨by omega, by rw [hinv.2, all_step hx hg.1, adj_step hx hy hg.2]⟩
      · omega
  · intro h9
    have k9 := of_decide_eq_false h9; try simp only [List.length_map] at k9
    have hge : p.Cuts.length ≤ i := by omega
    refine awp_exit ?_
    refine awp_seq ?_
    refine awp_region ?_
    refine sq_plain rfl rfl rfl (w_fldBn 0 rfl Try.underlying57 rfl Try.sizeOf3 (ev_tmp rfl) rfl) ?_
    refine sq_plain rfl rfl rfl (w_loadB1 0 rfl (ev_tmp rfl) rfl Try.isAgg3 rfl) ?_
    refine sq_plain rfl rfl rfl (w_call rfl Try.call107 rfl (l1In_spec _ _ _) (evl_cons (ev_tmp rfl) (evl_cons ev_ci (evl_cons ev_ci evl_nil)))) ?_
    refine sq_plain rfl rfl rfl (w_move rfl (ev_tmp rfl)) ?_
    refine sq_grd rfl rfl (guard_t rfl rfl rfl) (fun hc => w_fldBn 1 rfl Try.underlying57 rfl Try.sizeOf52 (ev_tmp rfl) rfl) ?_
    refine sq_grd rfl rfl (guard_t rfl rfl rfl) (fun hc => w_loadB1 0 rfl (ev_whn rfl hc) rfl Try.isAgg52 rfl) ?_
    refine sq_grd rfl rfl (guard_t rfl rfl rfl) (fun hc => w_llen rfl Try.underlying52 (ev_whn rfl hc)) ?_
    refine sq_grd rfl rfl (guard_t rfl rfl rfl) (fun hc => w_leq rfl (ev_whn rfl hc) ev_ci) ?_
    refine sq_plain rfl rfl rfl (w_and rfl (ev_tmp rfl) (evif_w rfl)) ?_
    refine sq_plain rfl rfl rfl (w_move rfl (ev_tmp rfl)) ?_
    refine sq_grd rfl rfl (guard_t rfl rfl rfl) (fun hc => w_fldBn 2 rfl Try.underlying57 rfl Try.sizeOf55 (ev_tmp rfl) rfl) ?_
    refine sq_grd rfl rfl (guard_t rfl rfl rfl) (fun hc => w_loadB1 0 rfl (ev_whn rfl hc) rfl Try.isAgg55 rfl) ?_
    refine sq_grd rfl rfl (guard_t rfl rfl rfl) (fun hc => w_llen rfl Try.underlying55 (ev_whn rfl hc)) ?_
    refine sq_grd rfl rfl (guard_t rfl rfl rfl) (fun hc => w_fldBn 1 rfl Try.underlying57 rfl Try.sizeOf52 (ev_tmp rfl) rfl) ?_
    refine sq_grd rfl rfl (guard_t rfl rfl rfl) (fun hc => w_loadB1 0 rfl (ev_whn rfl hc) rfl Try.isAgg52 rfl) ?_
    refine sq_grd rfl rfl (guard_t rfl rfl rfl) (fun hc => w_llen rfl Try.underlying52 (ev_whn rfl hc)) ?_
    refine sq_grd rfl rfl (guard_t rfl rfl rfl) (fun hc => w_addi rfl (ev_whn rfl hc) ev_ci (by simp only [List.length_map]; omega)) ?_
    refine sq_grd rfl rfl (guard_t rfl rfl rfl) (fun hc => w_eql rfl (ev_whn rfl hc) (ev_whn rfl hc)) ?_
    refine sq_plain rfl rfl rfl (w_and rfl (ev_tmp rfl) (evif_w rfl)) ?_
    refine sq_plain rfl rfl rfl (w_move rfl (ev_tmp rfl)) ?_
    refine sq_grd rfl rfl (guard_t rfl rfl rfl) (fun hc => w_fldBn 2 rfl Try.underlying57 rfl Try.sizeOf55 (ev_tmp rfl) rfl) ?_
    refine sq_grd rfl rfl (guard_t rfl rfl rfl) (fun hc => w_loadB1 0 rfl (ev_whn rfl hc) rfl Try.isAgg55 rfl) ?_
    refine sq_grd rfl rfl (guard_t rfl rfl rfl) (fun hc => w_call rfl Try.call117 rfl (l1All_spec _ _ _) (evl_cons (ev_whn rfl hc) (evl_cons ev_ci (evl_cons ev_ci evl_nil)))) ?_
    refine sq_plain rfl rfl rfl (w_and rfl (ev_tmp rfl) (evif_w rfl)) ?_
    refine sq_plain rfl rfl rfl (w_assign rfl (ev_tmp rfl)) ?_
    refine sq_nil ?_
    refine awp_ret ?_
    exact retR rfl (rv_tmp' rfl (by first | exact congrArg AV.bool hfin.symm | exact congrArg AV.bool (by unfold goodPlacesS; rw [hinv.2, all_end hge, adj_end hge]; simp only [List.length_map, Bool.true_and])))
theorem partOf_spec (cuts : List Str) (key : Str) : FSpec Try.prog 96 [strs cuts, AV.str key] (AV.int (partOf cuts key)) := by
  refine spec_of_awp Try.func96 rfl Try.ntmps96 rfl ?_
  refine awp_len (t := 0) rfl fun hl => ?_
  try simp only [List.length_map] at hl
  refine awp_seq ?_
  refine awp_region ?_
  refine sq_plain rfl rfl rfl (w_assign rfl ev_ci) ?_
  refine sq_nil ?_
  refine awp_seq ?_
  refine awp_region ?_
  refine sq_plain rfl rfl rfl (w_assign rfl ev_ci) ?_
  refine sq_nil ?_
  refine awp_seq ?_
  refine awp_seq ?_
  refine awp_region ?_
  refine sq_plain rfl rfl rfl (w_move rfl (ev_tmp rfl)) ?_
  refine sq_plain rfl rfl rfl (w_llen rfl Try.underlying52 (ev_tmp rfl)) ?_
  refine sq_plain rfl rfl rfl (w_move rfl ev_ci) ?_
  refine sq_nil ?_
  refine awp_block ?_
  refine awp_loop_i2 [(1, _), (4, _), (8, _), (9, _)] _ (fun (i : Nat) (m : Nat) => i ≤ cuts.length ∧ m = ((cuts.take i).filter fun c => sle c key).length ∧ m ≤ i) (fun (i : Nat) (m : Nat) => []) (fun (i : Nat) (m : Nat) => [(5, AV.int m), (10, AV.int i)]) (fun (i : Nat) (m : Nat) => cuts.length - i) (0) (0) ?_ (le_env ⟨rfl, rfl, rfl, rfl, rfl, rfl, trivial⟩) ?_
  · exact ⟨Nat.zero_le _, rfl, Nat.le_refl _⟩
  intro i m hinv
  refine awp_seq ?_
  refine awp_region ?_
  refine sq_plain rfl rfl rfl (w_lss rfl (ev_tmp rfl) (ev_tmp rfl)) ?_
  refine sq_nil ?_
  refine awp_seq ?_
  refine awp_cond (ev_tmp rfl) ?_ ?_
  · intro h11
    have k11 := of_decide_eq_true h11; try simp only [List.length_map] at k11
    have hlt : i < cuts.length := by omega
    obtain ⟨x, hx⟩ := get_some hlt
    refine awp_skip ?_
    refine awp_seq ?_
    refine awp_block ?_
    refine awp_seq ?_
    refine awp_region ?_
    refine sq_plain rfl rfl rfl (w_idxm rfl Try.underlying52 Try.sizeOf9 (ev_tmp rfl) (ev_tmp rfl) hx (by first | omega | ((try simp only [List.length_map, List.length_take, List.length_cons, List.length_nil, chunks_len, szR] at *); omega) | (have hc2 := hc; simp only [Bool.and_eq_true, Bool.or_eq_true, Bool.or_eq_false_iff, Bool.and_eq_false_iff, Bool.not_eq_true', Bool.not_eq_false', decide_eq_true_eq, decide_eq_false_iff_not, beq_iff_eq, bne_iff_ne, List.length_map, List.length_take] at hc2; omega))) ?_
    refine sq_plain rfl rfl rfl (w_loadE1 rfl (ev_tmp rfl) Try.isAgg9 rfl) ?_
    refine sq_plain rfl rfl rfl (w_assign rfl (ev_tmp rfl)) ?_
    refine sq_nil ?_
    refine awp_seq ?_
    refine awp_region ?_
    refine sq_plain rfl rfl rfl (w_move rfl (ev_tmp rfl)) ?_
    refine sq_plain rfl rfl rfl (w_move rfl (ev_tmp rfl)) ?_
    refine sq_plain rfl rfl rfl (w_sleq rfl (ev_tmp rfl) (ev_tmp rfl)) ?_
    refine sq_nil ?_
    refine awp_cond (ev_tmp rfl) ?_ ?_
    · intro h16
      have hkt : ((some x).toList.filter fun c => sle c key).length = 1 := by have h9 : sle x key = true := h16; simp [h9]
      refine awp_region ?_
      refine sq_plain rfl rfl rfl (w_move rfl (ev_tmp rfl)) ?_
      refine sq_plain rfl rfl rfl (w_addi rfl (ev_tmp rfl) ev_ci (by first | omega | ((try simp only [List.length_map, List.length_take, List.length_cons, List.length_nil, chunks_len, szR] at *); omega) | (have hc2 := hc; simp only [Bool.and_eq_true, Bool.or_eq_true, Bool.or_eq_false_iff, Bool.and_eq_false_iff, Bool.not_eq_true', Bool.not_eq_false', decide_eq_true_eq, decide_eq_false_iff_not, beq_iff_eq, bne_iff_ne, List.length_map, List.length_take] at hc2; omega))) ?_
      refine sq_plain rfl rfl rfl (w_assign rfl (ev_tmp rfl)) ?_
      refine sq_nil ?_
      refine awp_region ?_
      refine sq_plain rfl rfl rfl (w_addi rfl (ev_tmp rfl) ev_ci (by first | omega | ((try simp only [List.length_map, List.length_take, List.length_cons, List.length_nil, chunks_len, szR] at *); omega) | (have hc2 := hc; simp only [Bool.and_eq_true, Bool.or_eq_true, Bool.or_eq_false_iff, Bool.and_eq_false_iff, Bool.not_eq_true', Bool.not_eq_false', decide_eq_true_eq, decide_eq_false_iff_not, beq_iff_eq, bne_iff_ne, List.length_map, List.length_take] at hc2; omega))) ?_
      refine sq_plain rfl rfl rfl (w_move rfl (ev_tmp rfl)) ?_
      refine sq_nil ?_
      refine round_end2 i m (i + 1) (m + 1) ?_ ?_ (le_env ⟨rfl, rfl, rfl, rfl, rfl, rfl, trivial⟩)
      · exact ⟨by omega, by rw [List.take_add_one, hx, List.filter_append, List.length_append, ← hinv.2.1, hkt], by omega⟩
      · omega
    · intro h16
      have hkf : ((some x).toList.filter fun c => sle c key).length = 0 := by have h9 : sle x key = false := h16; simp [h9]
      refine awp_skip ?_
      refine awp_region ?_
      refine sq_plain rfl rfl rfl (w_addi rfl (ev_tmp rfl) ev_ci (by first | omega | ((try simp only [List.length_map, List.length_take, List.length_cons, List.length_nil, chunks_len, szR] at *); omega) | (have hc2 := hc; simp only [Bool.and_eq_true, Bool.or_eq_true, Bool.or_eq_false_iff, Bool.and_eq_false_iff, Bool.not_eq_true', Bool.not_eq_false', decide_eq_true_eq, decide_eq_false_iff_not, beq_iff_eq, bne_iff_ne, List.length_map, List.length_take] at hc2; omega))) ?_
      refine sq_plain rfl rfl rfl (w_move rfl (ev_tmp rfl)) ?_
      refine sq_nil ?_
      refine round_end2 i m (i + 1) (m) ?_ ?_ (le_env ⟨rfl, rfl, rfl, rfl, rfl, rfl, trivial⟩)
      · exact ⟨by omega, by rw [List.take_add_one, hx, List.filter_append, List.length_append, ← hinv.2.1, hkf, Nat.add_zero], by omega⟩
      · omega
  · intro h11
    have k11 := of_decide_eq_false h11; try simp only [List.length_map] at k11
    have hge : cuts.length ≤ i := by omega
    refine awp_exit ?_
    refine awp_seq ?_
    refine awp_region ?_
    refine sq_plain rfl rfl rfl (w_move rfl (ev_tmp rfl)) ?_
    refine sq_plain rfl rfl rfl (w_assign rfl (ev_tmp rfl)) ?_
    refine sq_nil ?_
    refine awp_ret ?_
    exact retR rfl (rv_tmp' rfl (by exact congrArg AV.int (by rw [hinv.2.1, List.take_of_length_le hge]; rfl)))
theorem l20Range_spec (p : TPlaces) (key : Str) (hlen : p.Cuts.length ≤ 4194304) : FSpec Try.prog 101 [AV.agg p.cs, AV.str key] (AV.int (rangeS p.Cuts key)) := by
  have hle := rangeS_le p.Cuts key
  refine spec_of_awp Try.func101 rfl Try.ntmps101 rfl ?_
  refine awp_seq ?_
  refine awp_region ?_
  refine sq_box rfl rfl rfl rfl (ev_tmp rfl) ?_
  intro b2
  refine sq_plain rfl rfl rfl (w_assign rfl ev_ci) ?_
  refine sq_nil ?_
  refine awp_seq ?_
  refine awp_region ?_
  refine sq_plain rfl rfl rfl (w_assign rfl ev_ci) ?_
  refine sq_nil ?_
  refine awp_seq ?_
  refine awp_block ?_
  refine awp_loop_i [(1, _), (2, _), (4, _)] _ (fun (i : Nat) => i ≤ rangeS p.Cuts key) (fun (i : Nat) => []) (fun (i : Nat) => [(5, AV.int i)]) (fun (i : Nat) => p.Cuts.length - i) (0) ?_ (le_env ⟨rfl, rfl, rfl, rfl, trivial⟩) ?_
  · exact Nat.zero_le _
  intro i hinv
  obtain ⟨y, hy⟩ := get_any p.Cuts i
  refine awp_seq ?_
  refine awp_seq ?_
  refine awp_region ?_
  refine sq_plain rfl rfl rfl (w_move rfl (ev_tmp rfl)) ?_
  refine sq_plain rfl rfl rfl (w_fldBn 1 rfl Try.underlying57 rfl Try.sizeOf52 (ev_tmp rfl) rfl) ?_
  refine sq_plain rfl rfl rfl (w_loadB1 0 rfl (ev_tmp rfl) rfl Try.isAgg52 rfl) ?_
  refine sq_plain rfl rfl rfl (w_llen rfl Try.underlying52 (ev_tmp rfl)) ?_
  refine sq_plain rfl rfl rfl (w_lss rfl (ev_tmp rfl) (ev_tmp rfl)) ?_
  refine sq_plain rfl rfl rfl (w_move rfl (ev_tmp rfl)) ?_
  refine sq_grd rfl rfl (guard_t rfl rfl rfl) (fun hc => w_fldBn 1 rfl Try.underlying57 rfl Try.sizeOf52 (ev_tmp rfl) rfl) ?_
  refine sq_grd rfl rfl (guard_t rfl rfl rfl) (fun hc => w_loadB1 0 rfl (ev_whn rfl hc) rfl Try.isAgg52 rfl) ?_
  refine sq_grd rfl rfl (guard_t rfl rfl rfl) (fun hc => w_move rfl (ev_tmp rfl)) ?_
  refine sq_grd rfl rfl (guard_t rfl rfl rfl) (fun hc => w_idxm rfl Try.underlying52 Try.sizeOf9 (ev_whn rfl hc) (ev_whn rfl hc) (hy (by first | omega | ((try simp only [List.length_map, List.length_take, List.length_cons, List.length_nil, chunks_len, szR] at *); omega) | (have hc2 := hc; simp only [Bool.and_eq_true, Bool.or_eq_true, Bool.or_eq_false_iff, Bool.and_eq_false_iff, Bool.not_eq_true', Bool.not_eq_false', decide_eq_true_eq, decide_eq_false_iff_not, beq_iff_eq, bne_iff_ne, List.length_map, List.length_take] at hc2; omega))) rfl) ?_
  refine sq_grd rfl rfl (guard_t rfl rfl rfl) (fun hc => w_loadE1 rfl (ev_whn rfl hc) Try.isAgg9 rfl) ?_
  refine sq_grd rfl rfl (guard_t rfl rfl rfl) (fun hc => w_move rfl (ev_tmp rfl)) ?_
  refine sq_grd rfl rfl (guard_t rfl rfl rfl) (fun hc => w_sleq rfl (ev_whn rfl hc) (ev_whn rfl hc)) ?_
  refine sq_plain rfl rfl rfl (w_and rfl (ev_tmp rfl) (evif_w rfl)) ?_
  refine sq_nil ?_
  refine awp_cond (ev_tmp rfl) ?_ ?_
  · intro h19
    have hk : i < p.Cuts.length ∧ sle y key = true := by have h9 := h19; simp only [Bool.and_eq_true, decide_eq_true_eq, List.length_map] at h9; exact ⟨by omega, h9.2⟩
    refine awp_skip ?_
    refine awp_block ?_
    refine awp_region ?_
    refine sq_plain rfl rfl rfl (w_move rfl (ev_tmp rfl)) ?_
    refine sq_plain rfl rfl rfl (w_addi rfl (ev_tmp rfl) ev_ci (by have := hk.1; omega)) ?_
    refine sq_plain rfl rfl rfl (w_assign rfl (ev_tmp rfl)) ?_
    refine sq_nil ?_
    refine blockN ?_
    refine round_end i (i + 1) ?_ ?_ (le_env ⟨rfl, rfl, rfl, rfl, trivial⟩)
    · exact tw_ge hinv (hy (by omega)) hk.2
    · omega
  · intro h19
    have hfin : rangeS p.Cuts key = i := by rcases Nat.lt_or_ge i p.Cuts.length with h8 | h8; (have h9 := h19; simp only [List.length_map] at h9; rw [decide_eq_true (by omega), Bool.true_and] at h9; exact tw_eq hinv (hy h8) h9); omega
    refine awp_exit ?_
    refine awp_seq ?_
    refine awp_region ?_
    refine sq_plain rfl rfl rfl (w_move rfl (ev_tmp rfl)) ?_
    refine sq_plain rfl rfl rfl (w_assign rfl (ev_tmp rfl)) ?_
    refine sq_nil ?_
    refine awp_ret ?_
    exact retR rfl (rv_tmp' rfl (by exact congrArg AV.int (by rw [hfin])))
theorem l24At_spec (l : List Str) (s : Str) : FSpec Try.prog 100 [strs l, AV.str s] (AV.int (idxFrom (fun x => x == s) l 0)) := by
  refine spec_of_awp Try.func100 rfl Try.ntmps100 rfl ?_
  refine awp_len (t := 0) rfl fun hl => ?_
  try simp only [List.length_map] at hl
  refine awp_seq ?_
  refine awp_region ?_
  refine sq_plain rfl rfl rfl (w_assign rfl ev_ci) ?_
  refine sq_nil ?_
  refine awp_seq ?_
  refine awp_seq ?_
  refine awp_region ?_
  refine sq_plain rfl rfl rfl (w_move rfl (ev_tmp rfl)) ?_
  refine sq_plain rfl rfl rfl (w_llen rfl Try.underlying52 (ev_tmp rfl)) ?_
  refine sq_plain rfl rfl rfl (w_move rfl ev_ci) ?_
  refine sq_nil ?_
  refine awp_block ?_
  refine awp_loop_i [(1, _), (7, _), (8, _)] _ (fun (i : Nat) => i ≤ l.length ∧ idxFrom (fun x => x == s) l 0 = idxFrom (fun x => x == s) (l.drop i) i) (fun (i : Nat) => []) (fun (i : Nat) => [(9, AV.int i)]) (fun (i : Nat) => l.length - i) (0) ?_ (le_env ⟨rfl, rfl, rfl, rfl, trivial⟩) ?_
  · exact ⟨Nat.zero_le _, rfl⟩
  intro i hinv
  refine awp_seq ?_
  refine awp_region ?_
  refine sq_plain rfl rfl rfl (w_lss rfl (ev_tmp rfl) (ev_tmp rfl)) ?_
  refine sq_nil ?_
  refine awp_seq ?_
  refine awp_cond (ev_tmp rfl) ?_ ?_
  · intro h10
    have k10 := of_decide_eq_true h10; try simp only [List.length_map] at k10
    have hlt : i < l.length := by omega
    obtain ⟨x, hx⟩ := get_some hlt
    refine awp_skip ?_
    refine awp_seq ?_
    refine awp_block ?_
    refine awp_seq ?_
    refine awp_region ?_
    refine sq_plain rfl rfl rfl (w_move rfl (ev_tmp rfl)) ?_
    refine sq_plain rfl rfl rfl (w_idxm rfl Try.underlying52 Try.sizeOf9 (ev_tmp rfl) (ev_tmp rfl) hx (by first | omega | ((try simp only [List.length_map, List.length_take, List.length_cons, List.length_nil, chunks_len, szR] at *); omega) | (have hc2 := hc; simp only [Bool.and_eq_true, Bool.or_eq_true, Bool.or_eq_false_iff, Bool.and_eq_false_iff, Bool.not_eq_true', Bool.not_eq_false', decide_eq_true_eq, decide_eq_false_iff_not, beq_iff_eq, bne_iff_ne, List.length_map, List.length_take] at hc2; omega))) ?_
    refine sq_plain rfl rfl rfl (w_loadE1 rfl (ev_tmp rfl) Try.isAgg9 rfl) ?_
    refine sq_plain rfl rfl rfl (w_assign rfl (ev_tmp rfl)) ?_
    refine sq_plain rfl rfl rfl (w_assign rfl (ev_tmp rfl)) ?_
    refine sq_nil ?_
    refine awp_seq ?_
    refine awp_region ?_
    refine sq_plain rfl rfl rfl (w_move rfl (ev_tmp rfl)) ?_
    refine sq_plain rfl rfl rfl (w_move rfl (ev_tmp rfl)) ?_
    refine sq_plain rfl rfl rfl (w_seql rfl (ev_tmp rfl) (ev_tmp rfl)) ?_
    refine sq_nil ?_
    refine awp_cond (ev_tmp rfl) ?_ ?_
    · intro h16
      refine awp_seq ?_
      refine awp_region ?_
      refine sq_plain rfl rfl rfl (w_move rfl (ev_tmp rfl)) ?_
      refine sq_plain rfl rfl rfl (w_assign rfl (ev_tmp rfl)) ?_
      refine sq_nil ?_
      refine awp_ret ?_
      exact retR rfl (rv_tmp' rfl (by first | exact congrArg AV.int (by rw [hinv.2, drop_some hx, idxFrom, h16]; rfl) | exact congrArg AV.int (by rw [hinv.2, List.drop_eq_nil_of_le hge]; rfl)))
    · intro h16
      refine awp_skip ?_
      refine awp_region ?_
      refine sq_plain rfl rfl rfl (w_addi rfl (ev_tmp rfl) ev_ci (by first | omega | ((try simp only [List.length_map, List.length_take, List.length_cons, List.length_nil, chunks_len, szR] at *); omega) | (have hc2 := hc; simp only [Bool.and_eq_true, Bool.or_eq_true, Bool.or_eq_false_iff, Bool.and_eq_false_iff, Bool.not_eq_true', Bool.not_eq_false', decide_eq_true_eq, decide_eq_false_iff_not, beq_iff_eq, bne_iff_ne, List.length_map, List.length_take] at hc2; omega))) ?_
      refine sq_plain rfl rfl rfl (w_move rfl (ev_tmp rfl)) ?_
      refine sq_nil ?_
      refine round_end i (i + 1) ?_ ?_ (le_env ⟨rfl, rfl, rfl, rfl, trivial⟩)
      · exact ⟨by omega, by rw [hinv.2, drop_some hx, idxFrom, h16]; simp⟩
      · omega
  · intro h10
    have k10 := of_decide_eq_false h10; try simp only [List.length_map] at k10
    have hge : l.length ≤ i := by omega
    refine awp_exit ?_
    refine awp_seq ?_
    refine awp_region ?_
    refine sq_plain rfl rfl rfl (w_assign rfl ev_ci) ?_
    refine sq_nil ?_
    refine awp_ret ?_
    exact retR rfl (rv_tmp' rfl (by first | exact congrArg AV.int (by rw [hinv.2, drop_some hx, idxFrom, h16]; rfl) | exact congrArg AV.int (by rw [hinv.2, List.drop_eq_nil_of_le hge]; rfl)))
theorem l1Same_spec (a b : List Int) : FSpec Try.prog 223 [ints a, ints b] (AV.bool (decide (a = b))) := by
  refine spec_of_awp Try.func223 rfl Try.ntmps223 rfl ?_
  refine awp_len (t := 0) rfl fun hl => ?_
  try simp only [List.length_map] at hl
  refine awp_seq ?_
  refine awp_region ?_
  refine sq_plain rfl rfl rfl (w_assign rfl ev_cb) ?_
  refine sq_nil ?_
  refine awp_seq ?_
  refine awp_seq ?_
  refine awp_region ?_
  refine sq_plain rfl rfl rfl (w_move rfl (ev_tmp rfl)) ?_
  refine sq_plain rfl rfl rfl (w_llen rfl Try.underlying55 (ev_tmp rfl)) ?_
  refine sq_plain rfl rfl rfl (w_move rfl (ev_tmp rfl)) ?_
  refine sq_plain rfl rfl rfl (w_llen rfl Try.underlying55 (ev_tmp rfl)) ?_
  refine sq_plain rfl rfl rfl (w_neq rfl (ev_tmp rfl) (ev_tmp rfl)) ?_
  refine sq_nil ?_
  refine awp_cond (ev_tmp rfl) ?_ ?_
  · intro h10
    have k10 := ne_of_bne h10; try simp only [List.length_map] at k10
    have hab : a ≠ b := by intro hc; subst hc; exact k10 rfl
    refine awp_seq ?_
    refine awp_region ?_
    refine sq_plain rfl rfl rfl (w_assign rfl ev_cb) ?_
    refine sq_nil ?_
    refine awp_ret ?_
    exact retR rfl (rv_tmp' rfl (by exact congrArg AV.bool (by simp [hab])))
  · intro h10
    have k10 := eq_of_bne_false h10; try simp only [List.length_map] at k10
    have heq : a.length = b.length := by omega
    refine awp_skip ?_
    refine awp_seq ?_
    refine awp_seq ?_
    refine awp_region ?_
    refine sq_plain rfl rfl rfl (w_move rfl (ev_tmp rfl)) ?_
    refine sq_plain rfl rfl rfl (w_llen rfl Try.underlying55 (ev_tmp rfl)) ?_
    refine sq_plain rfl rfl rfl (w_move rfl ev_ci) ?_
    refine sq_nil ?_
    refine awp_block ?_
    refine awp_loop_i [(0, _), (1, _), (12, _)] _ (fun (i : Nat) => i ≤ a.length ∧ a.take i = b.take i) (fun (i : Nat) => []) (fun (i : Nat) => [(13, AV.int i)]) (fun (i : Nat) => a.length - i) (0) ?_ (le_env ⟨rfl, rfl, rfl, rfl, trivial⟩) ?_
    · exact ⟨Nat.zero_le _, rfl⟩
    intro i hinv
    refine awp_seq ?_
    refine awp_region ?_
    refine sq_plain rfl rfl rfl (w_lss rfl (ev_tmp rfl) (ev_tmp rfl)) ?_
    refine sq_nil ?_
    refine awp_seq ?_
    refine awp_cond (ev_tmp rfl) ?_ ?_
    · intro h14
      have k14 := of_decide_eq_true h14; try simp only [List.length_map] at k14
      have hlt : i < a.length := by omega
      obtain ⟨x, hx⟩ := get_some hlt
      obtain ⟨y, hy⟩ := get_some (show i < b.length by omega)
      refine awp_skip ?_
      refine awp_seq ?_
      refine awp_block ?_
      refine awp_seq ?_
      refine awp_region ?_
      refine sq_plain rfl rfl rfl (w_move rfl (ev_tmp rfl)) ?_
      refine sq_plain rfl rfl rfl (w_assign rfl (ev_tmp rfl)) ?_
      refine sq_nil ?_
      refine awp_seq ?_
      refine awp_region_any (by kernel_rfl) (by kernel_rfl) rfl ?_
      refine ch_plain rfl rfl (w_move rfl (ev_tmp rfl)) ?_
      refine ch_plain rfl rfl (w_move rfl (ev_tmp rfl)) ?_
      refine ch_plain rfl rfl (w_idxm rfl Try.underlying55 Try.sizeOf3 (ev_tmp rfl) (ev_tmp rfl) hx (by first | omega | ((try simp only [List.length_map, List.length_take, List.length_cons, List.length_nil, chunks_len, szR] at *); omega) | (have hc2 := hc; simp only [Bool.and_eq_true, Bool.or_eq_true, Bool.or_eq_false_iff, Bool.and_eq_false_iff, Bool.not_eq_true', Bool.not_eq_false', decide_eq_true_eq, decide_eq_false_iff_not, beq_iff_eq, bne_iff_ne, List.length_map, List.length_take] at hc2; omega))) ?_
      refine ch_plain rfl rfl (w_loadE1 rfl (ev_tmp rfl) Try.isAgg3 rfl) ?_
      refine ch_plain rfl rfl (w_move rfl (ev_tmp rfl)) ?_
      refine ch_plain rfl rfl (w_move rfl (ev_tmp rfl)) ?_
      refine ch_plain rfl rfl (w_idxm rfl Try.underlying55 Try.sizeOf3 (ev_tmp rfl) (ev_tmp rfl) hy (by first | omega | ((try simp only [List.length_map, List.length_take, List.length_cons, List.length_nil, chunks_len, szR] at *); omega) | (have hc2 := hc; simp only [Bool.and_eq_true, Bool.or_eq_true, Bool.or_eq_false_iff, Bool.and_eq_false_iff, Bool.not_eq_true', Bool.not_eq_false', decide_eq_true_eq, decide_eq_false_iff_not, beq_iff_eq, bne_iff_ne, List.length_map, List.length_take] at hc2; omega))) ?_
      refine ch_plain rfl rfl (w_loadE1 rfl (ev_tmp rfl) Try.isAgg3 rfl) ?_
      refine ch_plain rfl rfl (w_neq rfl (ev_tmp rfl) (ev_tmp rfl)) ?_
      refine ch_nil ?_
      refine awp_cond (ev_tmp rfl) ?_ ?_
      · intro h24
        have k24 := ne_of_bne h24; try simp only [List.length_map] at k24
        have hab : a ≠ b := by intro hc; subst hc; rw [hx] at hy; injection hy with hy; subst hy; simp at h24
        refine awp_seq ?_
        refine awp_region ?_
        refine sq_plain rfl rfl rfl (w_assign rfl ev_cb) ?_
        refine sq_nil ?_
        refine awp_ret ?_
        exact retR rfl (rv_tmp' rfl (by exact congrArg AV.bool (by simp [hab])))
      · intro h24
        have k24 := eq_of_bne_false h24; try simp only [List.length_map] at k24
        refine awp_skip ?_
        refine awp_region ?_
        refine sq_plain rfl rfl rfl (w_addi rfl (ev_tmp rfl) ev_ci (by first | omega | ((try simp only [List.length_map, List.length_take, List.length_cons, List.length_nil, chunks_len, szR] at *); omega) | (have hc2 := hc; simp only [Bool.and_eq_true, Bool.or_eq_true, Bool.or_eq_false_iff, Bool.and_eq_false_iff, Bool.not_eq_true', Bool.not_eq_false', decide_eq_true_eq, decide_eq_false_iff_not, beq_iff_eq, bne_iff_ne, List.length_map, List.length_take] at hc2; omega))) ?_
        refine sq_plain rfl rfl rfl (w_move rfl (ev_tmp rfl)) ?_
        refine sq_nil ?_
        refine round_end i (i + 1) ?_ ?_ (le_env ⟨rfl, rfl, rfl, rfl, trivial⟩)
        · exact ⟨by omega, take_eq_succ hinv.2 hx (by rw [hy]; congr 1; simp_all)⟩
        · omega
    · intro h14
      have k14 := of_decide_eq_false h14; try simp only [List.length_map] at k14
      have hge : a.length ≤ i := by omega
      have hab : a = b := take_eq_of heq hinv.2 hge
      refine awp_exit ?_
      refine awp_seq ?_
      refine awp_region ?_
      refine sq_plain rfl rfl rfl (w_assign rfl ev_cb) ?_
      refine sq_nil ?_
      refine awp_ret ?_
      exact retR rfl (rv_tmp' rfl (by exact congrArg AV.bool (by simp [hab])))
theorem l1SameS_spec (a b : List Str) : FSpec Try.prog 222 [strs a, strs b] (AV.bool (decide (a = b))) := by
  refine spec_of_awp Try.func222 rfl Try.ntmps222 rfl ?_
  refine awp_len (t := 0) rfl fun hl => ?_
  try simp only [List.length_map] at hl
  refine awp_seq ?_
  refine awp_region ?_
  refine sq_plain rfl rfl rfl (w_assign rfl ev_cb) ?_
  refine sq_nil ?_
  refine awp_seq ?_
  refine awp_seq ?_
  refine awp_region ?_
  refine sq_plain rfl rfl rfl (w_move rfl (ev_tmp rfl)) ?_
  refine sq_plain rfl rfl rfl (w_llen rfl Try.underlying52 (ev_tmp rfl)) ?_
  refine sq_plain rfl rfl rfl (w_move rfl (ev_tmp rfl)) ?_
  refine sq_plain rfl rfl rfl (w_llen rfl Try.underlying52 (ev_tmp rfl)) ?_
  refine sq_plain rfl rfl rfl (w_neq rfl (ev_tmp rfl) (ev_tmp rfl)) ?_
  refine sq_nil ?_
  refine awp_cond (ev_tmp rfl) ?_ ?_
  · intro h10
    have k10 := ne_of_bne h10; try simp only [List.length_map] at k10
    have hab : a ≠ b := by intro hc; subst hc; exact k10 rfl
    refine awp_seq ?_
    refine awp_region ?_
    refine sq_plain rfl rfl rfl (w_assign rfl ev_cb) ?_
    refine sq_nil ?_
    refine awp_ret ?_
    exact retR rfl (rv_tmp' rfl (by exact congrArg AV.bool (by simp [hab])))
  · intro h10
    have k10 := eq_of_bne_false h10; try simp only [List.length_map] at k10
    have heq : a.length = b.length := by omega
    refine awp_skip ?_
    refine awp_seq ?_
    refine awp_seq ?_
    refine awp_region ?_
    refine sq_plain rfl rfl rfl (w_move rfl (ev_tmp rfl)) ?_
    refine sq_plain rfl rfl rfl (w_llen rfl Try.underlying52 (ev_tmp rfl)) ?_
    refine sq_plain rfl rfl rfl (w_move rfl ev_ci) ?_
    refine sq_nil ?_
    refine awp_block ?_
    refine awp_loop_i [(0, _), (1, _), (12, _)] _ (fun (i : Nat) => i ≤ a.length ∧ a.take i = b.take i) (fun (i : Nat) => []) (fun (i : Nat) => [(13, AV.int i)]) (fun (i : Nat) => a.length - i) (0) ?_ (le_env ⟨rfl, rfl, rfl, rfl, trivial⟩) ?_
    · exact ⟨Nat.zero_le _, rfl⟩
    intro i hinv
    refine awp_seq ?_
    refine awp_region ?_
    refine sq_plain rfl rfl rfl (w_lss rfl (ev_tmp rfl) (ev_tmp rfl)) ?_
    refine sq_nil ?_
    refine awp_seq ?_
    refine awp_cond (ev_tmp rfl) ?_ ?_
    · intro h14
      have k14 := of_decide_eq_true h14; try simp only [List.length_map] at k14
      have hlt : i < a.length := by omega
      obtain ⟨x, hx⟩ := get_some hlt
      obtain ⟨y, hy⟩ := get_some (show i < b.length by omega)
      refine awp_skip ?_
      refine awp_seq ?_
      refine awp_block ?_
      refine awp_seq ?_
      refine awp_region ?_
      refine sq_plain rfl rfl rfl (w_move rfl (ev_tmp rfl)) ?_
      refine sq_plain rfl rfl rfl (w_assign rfl (ev_tmp rfl)) ?_
      refine sq_nil ?_
      refine awp_seq ?_
      refine awp_region_any (by kernel_rfl) (by kernel_rfl) rfl ?_
      refine ch_plain rfl rfl (w_move rfl (ev_tmp rfl)) ?_
      refine ch_plain rfl rfl (w_move rfl (ev_tmp rfl)) ?_
      refine ch_plain rfl rfl (w_idxm rfl Try.underlying52 Try.sizeOf9 (ev_tmp rfl) (ev_tmp rfl) hx (by first | omega | ((try simp only [List.length_map, List.length_take, List.length_cons, List.length_nil, chunks_len, szR] at *); omega) | (have hc2 := hc; simp only [Bool.and_eq_true, Bool.or_eq_true, Bool.or_eq_false_iff, Bool.and_eq_false_iff, Bool.not_eq_true', Bool.not_eq_false', decide_eq_true_eq, decide_eq_false_iff_not, beq_iff_eq, bne_iff_ne, List.length_map, List.length_take] at hc2; omega))) ?_
      refine ch_plain rfl rfl (w_loadE1 rfl (ev_tmp rfl) Try.isAgg9 rfl) ?_
      refine ch_plain rfl rfl (w_move rfl (ev_tmp rfl)) ?_
      refine ch_plain rfl rfl (w_move rfl (ev_tmp rfl)) ?_
      refine ch_plain rfl rfl (w_idxm rfl Try.underlying52 Try.sizeOf9 (ev_tmp rfl) (ev_tmp rfl) hy (by first | omega | ((try simp only [List.length_map, List.length_take, List.length_cons, List.length_nil, chunks_len, szR] at *); omega) | (have hc2 := hc; simp only [Bool.and_eq_true, Bool.or_eq_true, Bool.or_eq_false_iff, Bool.and_eq_false_iff, Bool.not_eq_true', Bool.not_eq_false', decide_eq_true_eq, decide_eq_false_iff_not, beq_iff_eq, bne_iff_ne, List.length_map, List.length_take] at hc2; omega))) ?_
      refine ch_plain rfl rfl (w_loadE1 rfl (ev_tmp rfl) Try.isAgg9 rfl) ?_
      refine ch_plain rfl rfl (w_sneq rfl (ev_tmp rfl) (ev_tmp rfl)) ?_
      refine ch_nil ?_
      refine awp_cond (ev_tmp rfl) ?_ ?_
      · intro h24
        have hab : a ≠ b := by intro hc; subst hc; rw [hx] at hy; injection hy with hy; subst hy; simp at h24
        refine awp_seq ?_
        refine awp_region ?_
        refine sq_plain rfl rfl rfl (w_assign rfl ev_cb) ?_
        refine sq_nil ?_
        refine awp_ret ?_
        exact retR rfl (rv_tmp' rfl (by exact congrArg AV.bool (by simp [hab])))
      · intro h24
        refine awp_skip ?_
        refine awp_region ?_
        refine sq_plain rfl rfl rfl (w_addi rfl (ev_tmp rfl) ev_ci (by first | omega | ((try simp only [List.length_map, List.length_take, List.length_cons, List.length_nil, chunks_len, szR] at *); omega) | (have hc2 := hc; simp only [Bool.and_eq_true, Bool.or_eq_true, Bool.or_eq_false_iff, Bool.and_eq_false_iff, Bool.not_eq_true', Bool.not_eq_false', decide_eq_true_eq, decide_eq_false_iff_not, beq_iff_eq, bne_iff_ne, List.length_map, List.length_take] at hc2; omega))) ?_
        refine sq_plain rfl rfl rfl (w_move rfl (ev_tmp rfl)) ?_
        refine sq_nil ?_
        refine round_end i (i + 1) ?_ ?_ (le_env ⟨rfl, rfl, rfl, rfl, trivial⟩)
        · exact ⟨by omega, take_eq_succ hinv.2 hx (by rw [hy]; congr 1; simp_all)⟩
        · omega
    · intro h14
      have k14 := of_decide_eq_false h14; try simp only [List.length_map] at k14
      have hge : a.length ≤ i := by omega
      have hab : a = b := take_eq_of heq hinv.2 hge
      refine awp_exit ?_
      refine awp_seq ?_
      refine awp_region ?_
      refine sq_plain rfl rfl rfl (w_assign rfl ev_cb) ?_
      refine sq_nil ?_
      refine awp_ret ?_
      exact retR rfl (rv_tmp' rfl (by exact congrArg AV.bool (by simp [hab])))
theorem samePlaces_spec (a b : TPlaces) : FSpec Try.prog 178 [AV.agg a.cs, AV.agg b.cs] (AV.bool (samePlaces a b)) := by
  refine spec_of_awp Try.func178 rfl Try.ntmps178 rfl ?_
  refine awp_seq ?_
  refine awp_region ?_
  refine sq_box rfl rfl rfl rfl (ev_tmp rfl) ?_
  intro b2
  refine sq_box rfl rfl rfl rfl (ev_tmp rfl) ?_
  intro b3
  refine sq_plain rfl rfl rfl (w_assign rfl ev_cb) ?_
  refine sq_nil ?_
  refine awp_seq ?_
  refine awp_region ?_
  refine sq_plain rfl rfl rfl (w_fldBn 0 rfl Try.underlying57 rfl Try.sizeOf3 (ev_tmp rfl) rfl) ?_
  refine sq_plain rfl rfl rfl (w_loadB1 1 rfl (ev_tmp rfl) rfl Try.isAgg3 rfl) ?_
  refine sq_plain rfl rfl rfl (w_fldBn 0 rfl Try.underlying57 rfl Try.sizeOf3 (ev_tmp rfl) rfl) ?_
  refine sq_plain rfl rfl rfl (w_loadB1 0 rfl (ev_tmp rfl) rfl Try.isAgg3 rfl) ?_
  refine sq_plain rfl rfl rfl (w_eql rfl (ev_tmp rfl) (ev_tmp rfl)) ?_
  refine sq_plain rfl rfl rfl (w_move rfl (ev_tmp rfl)) ?_
  refine sq_grd rfl rfl (guard_t rfl rfl rfl) (fun hc => w_fldBn 1 rfl Try.underlying57 rfl Try.sizeOf52 (ev_tmp rfl) rfl) ?_
  refine sq_grd rfl rfl (guard_t rfl rfl rfl) (fun hc => w_loadB1 1 rfl (ev_whn rfl hc) rfl Try.isAgg52 rfl) ?_
  refine sq_grd rfl rfl (guard_t rfl rfl rfl) (fun hc => w_fldBn 1 rfl Try.underlying57 rfl Try.sizeOf52 (ev_tmp rfl) rfl) ?_
  refine sq_grd rfl rfl (guard_t rfl rfl rfl) (fun hc => w_loadB1 0 rfl (ev_whn rfl hc) rfl Try.isAgg52 rfl) ?_
  refine sq_grd rfl rfl (guard_t rfl rfl rfl) (fun hc => w_call rfl Try.call179 rfl (equalString_spec _ _) (evl_cons (ev_whn rfl hc) (evl_cons (ev_whn rfl hc) evl_nil))) ?_
  refine sq_plain rfl rfl rfl (w_and rfl (ev_tmp rfl) (evif_w rfl)) ?_
  refine sq_plain rfl rfl rfl (w_move rfl (ev_tmp rfl)) ?_
  refine sq_grd rfl rfl (guard_t rfl rfl rfl) (fun hc => w_fldBn 2 rfl Try.underlying57 rfl Try.sizeOf55 (ev_tmp rfl) rfl) ?_
  refine sq_grd rfl rfl (guard_t rfl rfl rfl) (fun hc => w_loadB1 1 rfl (ev_whn rfl hc) rfl Try.isAgg55 rfl) ?_
  refine sq_grd rfl rfl (guard_t rfl rfl rfl) (fun hc => w_fldBn 2 rfl Try.underlying57 rfl Try.sizeOf55 (ev_tmp rfl) rfl) ?_
  refine sq_grd rfl rfl (guard_t rfl rfl rfl) (fun hc => w_loadB1 0 rfl (ev_whn rfl hc) rfl Try.isAgg55 rfl) ?_
  refine sq_grd rfl rfl (guard_t rfl rfl rfl) (fun hc => w_call rfl Try.call221 rfl (equalInt_spec _ _) (evl_cons (ev_whn rfl hc) (evl_cons (ev_whn rfl hc) evl_nil))) ?_
  refine sq_plain rfl rfl rfl (w_and rfl (ev_tmp rfl) (evif_w rfl)) ?_
  refine sq_plain rfl rfl rfl (w_assign rfl (ev_tmp rfl)) ?_
  refine sq_nil ?_
  refine awp_ret ?_
  exact retR rfl (rv_tmp' rfl (by first | rfl | (refine congrArg AV.bool ?_; simp_all; done)))
theorem l21Same_spec (a b : TPlaces) : FSpec Try.prog 180 [AV.agg a.cs, AV.agg b.cs] (AV.bool (samePlaces a b)) := by
  refine spec_of_awp Try.func180 rfl Try.ntmps180 rfl ?_
  refine awp_seq ?_
  refine awp_region ?_
  refine sq_box rfl rfl rfl rfl (ev_tmp rfl) ?_
  intro b2
  refine sq_box rfl rfl rfl rfl (ev_tmp rfl) ?_
  intro b3
  refine sq_plain rfl rfl rfl (w_assign rfl ev_cb) ?_
  refine sq_nil ?_
  refine awp_seq ?_
  refine awp_region ?_
  refine sq_plain rfl rfl rfl (w_fldBn 0 rfl Try.underlying57 rfl Try.sizeOf3 (ev_tmp rfl) rfl) ?_
  refine sq_plain rfl rfl rfl (w_loadB1 1 rfl (ev_tmp rfl) rfl Try.isAgg3 rfl) ?_
  refine sq_plain rfl rfl rfl (w_fldBn 0 rfl Try.underlying57 rfl Try.sizeOf3 (ev_tmp rfl) rfl) ?_
  refine sq_plain rfl rfl rfl (w_loadB1 0 rfl (ev_tmp rfl) rfl Try.isAgg3 rfl) ?_
  refine sq_plain rfl rfl rfl (w_eql rfl (ev_tmp rfl) (ev_tmp rfl)) ?_
  refine sq_plain rfl rfl rfl (w_move rfl (ev_tmp rfl)) ?_
  refine sq_grd rfl rfl (guard_t rfl rfl rfl) (fun hc => w_fldBn 1 rfl Try.underlying57 rfl Try.sizeOf52 (ev_tmp rfl) rfl) ?_
  refine sq_grd rfl rfl (guard_t rfl rfl rfl) (fun hc => w_loadB1 1 rfl (ev_whn rfl hc) rfl Try.isAgg52 rfl) ?_
  refine sq_grd rfl rfl (guard_t rfl rfl rfl) (fun hc => w_fldBn 1 rfl Try.underlying57 rfl Try.sizeOf52 (ev_tmp rfl) rfl) ?_
  refine sq_grd rfl rfl (guard_t rfl rfl rfl) (fun hc => w_loadB1 0 rfl (ev_whn rfl hc) rfl Try.isAgg52 rfl) ?_
  refine sq_grd rfl rfl (guard_t rfl rfl rfl) (fun hc => w_call rfl Try.call222 rfl (l1SameS_spec _ _) (evl_cons (ev_whn rfl hc) (evl_cons (ev_whn rfl hc) evl_nil))) ?_
  refine sq_plain rfl rfl rfl (w_and rfl (ev_tmp rfl) (evif_w rfl)) ?_
  refine sq_plain rfl rfl rfl (w_move rfl (ev_tmp rfl)) ?_
  refine sq_grd rfl rfl (guard_t rfl rfl rfl) (fun hc => w_fldBn 2 rfl Try.underlying57 rfl Try.sizeOf55 (ev_tmp rfl) rfl) ?_
  refine sq_grd rfl rfl (guard_t rfl rfl rfl) (fun hc => w_loadB1 1 rfl (ev_whn rfl hc) rfl Try.isAgg55 rfl) ?_
  refine sq_grd rfl rfl (guard_t rfl rfl rfl) (fun hc => w_fldBn 2 rfl Try.underlying57 rfl Try.sizeOf55 (ev_tmp rfl) rfl) ?_
  refine sq_grd rfl rfl (guard_t rfl rfl rfl) (fun hc => w_loadB1 0 rfl (ev_whn rfl hc) rfl Try.isAgg55 rfl) ?_
  refine sq_grd rfl rfl (guard_t rfl rfl rfl) (fun hc => w_call rfl Try.call223 rfl (l1Same_spec _ _) (evl_cons (ev_whn rfl hc) (evl_cons (ev_whn rfl hc) evl_nil))) ?_
  refine sq_plain rfl rfl rfl (w_and rfl (ev_tmp rfl) (evif_w rfl)) ?_
  refine sq_plain rfl rfl rfl (w_assign rfl (ev_tmp rfl)) ?_
  refine sq_nil ?_
  refine awp_ret ?_
  exact retR rfl (rv_tmp' rfl (by first | rfl | (refine congrArg AV.bool ?_; simp_all; done)))
theorem isRange_spec (p : TPlaces) (i : Int) (hs : p.size ≤ 4194304) : FSpec Try.prog 105 [AV.agg p.cs, AV.int i] (AV.bool (isRange p i)) := by
  have hs' := hs; unfold TPlaces.size at hs'
  refine spec_of_awp Try.func105 rfl Try.ntmps105 rfl ?_
  refine awp_seq ?_
  refine awp_region ?_
  refine sq_box rfl rfl rfl rfl (ev_tmp rfl) ?_
  intro b2
  refine sq_plain rfl rfl rfl (w_assign rfl ev_cb) ?_
  refine sq_nil ?_
  refine awp_seq ?_
  refine awp_region ?_
  refine sq_plain rfl rfl rfl (w_loadA 0 rfl (ev_tmp rfl) rfl Try.isAgg57 Try.sizeOf57 rfl) ?_
  refine sq_plain rfl rfl rfl (w_call rfl Try.call34 rfl (goodPlaces_spec _ (by first | assumption | omega)) (evl_cons (ev_tmp rfl) evl_nil)) ?_
  refine sq_plain rfl rfl rfl (w_move rfl (ev_tmp rfl)) ?_
  refine sq_grd rfl rfl (guard_t rfl rfl rfl) (fun hc => w_move rfl (ev_tmp rfl)) ?_
  refine sq_grd rfl rfl (guard_t rfl rfl rfl) (fun hc => w_fldBn 2 rfl Try.underlying57 rfl Try.sizeOf55 (ev_tmp rfl) rfl) ?_
  refine sq_grd rfl rfl (guard_t rfl rfl rfl) (fun hc => w_loadB1 0 rfl (ev_whn rfl hc) rfl Try.isAgg55 rfl) ?_
  refine sq_grd rfl rfl (guard_t rfl rfl rfl) (fun hc => w_llen rfl Try.underlying55 (ev_whn rfl hc)) ?_
  refine sq_grd rfl rfl (guard_t rfl rfl rfl) (fun hc => w_subi rfl (ev_whn rfl hc) ev_ci (by simp only [List.length_map]; omega)) ?_
  refine sq_grd rfl rfl (guard_t rfl rfl rfl) (fun hc => w_call rfl Try.call113 rfl (within_spec _ _ _) (evl_cons (ev_whn rfl hc) (evl_cons ev_ci (evl_cons (ev_whn rfl hc) evl_nil)))) ?_
  refine sq_plain rfl rfl rfl (w_and rfl (ev_tmp rfl) (evif_w rfl)) ?_
  refine sq_plain rfl rfl rfl (w_assign rfl (ev_tmp rfl)) ?_
  refine sq_nil ?_
  refine awp_ret ?_
  exact retR rfl (rv_tmp' rfl (by exact congrArg AV.bool (by unfold isRange; simp only [List.length_map])))
theorem l1Own_own (l : List Int) (hl : l.length ≤ 4194304) : GSpec Try.prog 102 [ints l] [] (fun _ : Value => True) (fun v => [.arr v 3 1 (l.map fun x => [AV.int x])]) (fun v => AV.is v) := by
  refine gspec_of_awp Try.func102 rfl Try.ntmps102 rfl ?_
  refine awp_seq ?_
  refine awp_region ?_
  refine sq_plain rfl rfl rfl (w_assign rfl ev_cnils) ?_
  refine sq_nil ?_
  refine awp_seq ?_
  refine awp_region ?_
  refine sq_emptyarr rfl rfl rfl rfl Try.underlying55 Try.sizeOf3 ?_
  intro v3
  refine sq_plain rfl rfl rfl (w_move rfl (ev_tmp rfl)) ?_
  refine sq_append (by' := 8) 0 rfl rfl rfl rfl Try.underlying55 Try.type3 rfl rfl rfl rfl rfl rfl (ev_tmp rfl) (ev_tmp rfl) rfl (by first | omega | ((try simp only [List.length_map, List.length_take, List.length_cons, List.length_nil, chunks_len, szR] at *); omega) | (have hc2 := hc; simp only [Bool.and_eq_true, Bool.or_eq_true, Bool.or_eq_false_iff, Bool.and_eq_false_iff, Bool.not_eq_true', Bool.not_eq_false', decide_eq_true_eq, decide_eq_false_iff_not, beq_iff_eq, bne_iff_ne, List.length_map, List.length_take] at hc2; omega)) ?_
  intro v5_1
  refine sq_plain rfl rfl rfl (w_assign rfl (ev_tmp rfl)) ?_
  refine sq_nil ?_
  refine awp_ret ?_
  exact retG [0] v5_1 (trivial) rfl (by rfl) (resR rfl (rv_tmp' rfl (by first | rfl | (refine congrArg AV.bool ?_; simp_all; done))))
theorem copyPlaces_own (p : TPlaces) (hs : p.size ≤ 4194304) : GSpec Try.prog 95 [AV.agg p.cs] [] (fun _ : Value × Value => True) (fun x => TPlaces.ow p x) (fun x => AV.agg (TPlaces.ocs p x)) := by
  unfold TPlaces.size at hs
  have hf : p.Cuts.length ≤ 4194304 := Nat.le_trans sizeL_len (show sizeL (fun x : Str => x.length) p.Cuts ≤ 4194304 by omega)
  have ht : p.Groups.length ≤ 4194304 := by omega
  refine gspec_of_awp Try.func95 rfl Try.ntmps95 rfl ?_
  refine awp_seq ?_
  refine awp_region ?_
  refine sq_box rfl rfl rfl rfl (ev_tmp rfl) ?_
  intro b1
  refine sq_alloc rfl rfl rfl rfl Try.zeroValue57 rfl ?_
  intro b2
  refine sq_nil ?_
  refine awp_seq ?_
  refine awp_region_mix _ [(0, false), (1, false), (2, false), (3, false), (5, false), (6, false), (4, true), (7, true)] (by kernel_rfl) (by kernel_rfl) rfl invx_self ?_
  refine bc_plain rfl rfl rfl (fun ext => w_fldBn 0 rfl Try.underlying57 rfl Try.sizeOf3 (ev_tmp rfl) rfl) ?_
  refine bc_plain rfl rfl rfl (fun ext => w_loadB1 1 rfl (ev_tmp rfl) rfl Try.isAgg3 rfl) ?_
  refine bc_plain rfl rfl rfl (fun ext => w_fldBn 1 rfl Try.underlying57 rfl Try.sizeOf52 (ev_tmp rfl) rfl) ?_
  refine bc_plain rfl rfl rfl (fun ext => w_loadB1 1 rfl (ev_tmp rfl) rfl Try.isAgg52 rfl) ?_
  refine bc_plain rfl rfl rfl (fun ext => w_fldBn 2 rfl Try.underlying57 rfl Try.sizeOf55 (ev_tmp rfl) rfl) ?_
  refine bc_plain rfl rfl rfl (fun ext => w_loadB1 1 rfl (ev_tmp rfl) rfl Try.isAgg55 rfl) ?_
  refine bc_eff rfl rfl rfl (opE_call [] rfl Try.call167 rfl (cloneString_spec _ (by first | assumption | omega)) (evl_cons (ev_tmp rfl) evl_nil) rfl) (fun a _ => (by first | exact invx_mk rfl | exact invx_mk (List.append_assoc _ _ _) | exact invx_all)) ?_
  intro x7 ok7
  refine bc_eff rfl rfl rfl (opE_call [] rfl Try.call168 rfl (cloneInt_spec _ (by first | assumption | omega)) (evl_cons (ev_tmp rfl) evl_nil) rfl) (fun a _ => (by first | exact invx_mk rfl | exact invx_mk (List.append_assoc _ _ _) | exact invx_all)) ?_
  intro x10 ok10
  refine bc_nil ?_
  refine sq_fact 2 rfl fun one_x7 => ?_
  refine sq_fact 3 rfl fun one_x10 => ?_
  refine sq_plain rfl rfl rfl (w_build (places := #[(0, 1), (1, 1), (2, 1)]) rfl Try.underlying57 Try.zeroValue57 (fun w => by kernel_rfl) rfl (bp_cons (ev_tmp rfl) (as_ik _ _) (bp_cons (ev_tmp rfl) (as_is one_x7) (bp_cons (ev_tmp rfl) (as_is one_x10) bp_nil))) rfl) ?_
  refine sq_storeB0 0 rfl rfl rfl (ev_tmp rfl) (ev_tmp rfl) (as_agg _) rfl Try.sizeOf57 rfl ?_
  refine sq_nil ?_
  refine awp_ret ?_
  exact retG [2, 2] (x7, x10) (trivial) rfl (by rfl) (resR rfl (rv_cell (ys := _) 0 rfl rfl Try.isAgg57 Try.sizeOf57 rfl))
theorem l20Own_own (p : TPlaces) (hs : p.size ≤ 4194304) : GSpec Try.prog 108 [AV.agg p.cs] [] (fun _ : Value × Value => True) (fun x => TPlaces.ow p x) (fun x => AV.agg (TPlaces.ocs p x)) := by
  unfold TPlaces.size at hs
  have hf : p.Cuts.length ≤ 4194304 := Nat.le_trans sizeL_len (show sizeL (fun x : Str => x.length) p.Cuts ≤ 4194304 by omega)
  have ht : p.Groups.length ≤ 4194304 := by omega
  refine gspec_of_awp Try.func108 rfl Try.ntmps108 rfl ?_
  refine awp_seq ?_
  refine awp_region ?_
  refine sq_box rfl rfl rfl rfl (ev_tmp rfl) ?_
  intro b1
  refine sq_alloc rfl rfl rfl rfl Try.zeroValue57 rfl ?_
  intro b2
  refine sq_nil ?_
  refine awp_seq ?_
  refine awp_region_mix _ [(0, false), (1, false), (3, false), (4, false), (6, false), (7, false), (2, true), (5, true), (8, true)] (by kernel_rfl) (by kernel_rfl) rfl invx_self ?_
  refine bc_plain rfl rfl rfl (fun ext => w_fldBn 0 rfl Try.underlying57 rfl Try.sizeOf3 (ev_tmp rfl) rfl) ?_
  refine bc_plain rfl rfl rfl (fun ext => w_loadB1 1 rfl (ev_tmp rfl) rfl Try.isAgg3 rfl) ?_
  refine bc_plain rfl rfl rfl (fun ext => w_fldBn 1 rfl Try.underlying57 rfl Try.sizeOf52 (ev_tmp rfl) rfl) ?_
  refine bc_plain rfl rfl rfl (fun ext => w_loadB1 1 rfl (ev_tmp rfl) rfl Try.isAgg52 rfl) ?_
  refine bc_plain rfl rfl rfl (fun ext => w_fldBn 2 rfl Try.underlying57 rfl Try.sizeOf55 (ev_tmp rfl) rfl) ?_
  refine bc_plain rfl rfl rfl (fun ext => w_loadB1 1 rfl (ev_tmp rfl) rfl Try.isAgg55 rfl) ?_
  refine bc_eff rfl rfl rfl (opE_empty rfl Try.underlying52 Try.sizeOf9) (fun a _ => (by first | exact invx_mk rfl | exact invx_mk (List.append_assoc _ _ _) | exact invx_all)) ?_
  intro v5 _
  refine bc_eff rfl rfl rfl (opE_append (by' := 16) 2 rfl Try.underlying52 Try.type9 rfl rfl rfl rfl rfl rfl (ev_tmp rfl) (ev_tmp rfl) rfl (by first | omega | ((try simp only [List.length_map, List.length_take, List.length_cons, List.length_nil, chunks_len, szR] at *); omega) | (have hc2 := hc; simp only [Bool.and_eq_true, Bool.or_eq_true, Bool.or_eq_false_iff, Bool.and_eq_false_iff, Bool.not_eq_true', Bool.not_eq_false', decide_eq_true_eq, decide_eq_false_iff_not, beq_iff_eq, bne_iff_ne, List.length_map, List.length_take] at hc2; omega))) (fun a _ => (by first | exact invx_mk rfl | exact invx_mk (List.append_assoc _ _ _) | exact invx_all)) ?_
  intro v8_1 _
  refine bc_eff rfl rfl rfl (opE_call [] rfl Try.call102 rfl (l1Own_own _ (by first | assumption | omega)) (evl_cons (ev_tmp rfl) evl_nil) rfl) (fun a _ => (by first | exact invx_mk rfl | exact invx_mk (List.append_assoc _ _ _) | exact invx_all)) ?_
  intro x11 ok11
  refine bc_nil ?_
  refine sq_fact 2 rfl fun one_v8_1 => ?_
  refine sq_fact 3 rfl fun one_x11 => ?_
  refine sq_plain rfl rfl rfl (w_build (places := #[(0, 1), (1, 1), (2, 1)]) rfl Try.underlying57 Try.zeroValue57 (fun w => by kernel_rfl) rfl (bp_cons (ev_tmp rfl) (as_ik _ _) (bp_cons (ev_tmp rfl) (as_is one_v8_1) (bp_cons (ev_tmp rfl) (as_is one_x11) bp_nil))) rfl) ?_
  refine sq_storeB0 0 rfl rfl rfl (ev_tmp rfl) (ev_tmp rfl) (as_agg _) rfl Try.sizeOf57 rfl ?_
  refine sq_nil ?_
  refine awp_ret ?_
  exact retG [2, 2] (v8_1, x11) (trivial) rfl (by rfl) (resR rfl (rv_cell (ys := _) 0 rfl rfl Try.isAgg57 Try.sizeOf57 rfl))
theorem next_own (p : TPlaces) (x : Value × Value) (hs : p.size ≤ 4194304) (hv : 0 ≤ p.Ver ∧ p.Ver ≤ 50) : GSpec Try.prog 99 [AV.agg (TPlaces.ocs p x)] (TPlaces.ow p x) (fun _ : Value × Value => True) (fun y => TPlaces.ow (nextP p).1 y) (fun y => AV.tup [AV.agg (TPlaces.ocs (nextP p).1 y), AV.bool (nextP p).2]) := by
  refine gspec_of_awp Try.func99 rfl Try.ntmps99 rfl ?_
  refine awp_seq ?_
  refine awp_region ?_
  refine sq_box rfl rfl rfl rfl (ev_tmp rfl) ?_
  intro b1
  refine sq_alloc rfl rfl rfl rfl Try.zeroValue57 rfl ?_
  intro b2
  refine sq_plain rfl rfl rfl (w_assign rfl ev_cb) ?_
  refine sq_nil ?_
  refine awp_seq ?_
  refine awp_region ?_
  refine sq_plain rfl rfl rfl (w_fldBn 0 rfl Try.underlying57 rfl Try.sizeOf3 (ev_tmp rfl) rfl) ?_
  refine sq_plain rfl rfl rfl (w_loadB1 1 rfl (ev_tmp rfl) rfl Try.isAgg3 rfl) ?_
  refine sq_plain rfl rfl rfl (w_addi rfl (ev_tmp rfl) ev_ci (by first | omega | ((try simp only [List.length_map, List.length_take, List.length_cons, List.length_nil, chunks_len, szR] at *); omega) | (have hc2 := hc; simp only [Bool.and_eq_true, Bool.or_eq_true, Bool.or_eq_false_iff, Bool.and_eq_false_iff, Bool.not_eq_true', Bool.not_eq_false', decide_eq_true_eq, decide_eq_false_iff_not, beq_iff_eq, bne_iff_ne, List.length_map, List.length_take] at hc2; omega))) ?_
  refine sq_plain rfl rfl rfl (w_fldBn 0 rfl Try.underlying57 rfl Try.sizeOf3 (ev_tmp rfl) rfl) ?_
  refine sq_storeB1 1 rfl rfl rfl (ev_tmp rfl) (ev_tmp rfl) (as_ik _ _) rfl Try.sizeOf3 rfl ?_
  refine sq_nil ?_
  refine awp_seq ?_
  refine awp_seq ?_
  refine awp_region ?_
  refine sq_plain rfl rfl rfl (w_loadA 1 rfl (ev_tmp rfl) rfl Try.isAgg57 Try.sizeOf57 rfl) ?_
  refine sq_plain rfl rfl rfl (w_callB rfl Try.call34 rfl (goodPlaces_spec (bump p) hs) (flat_bool _) (evlb_cons (evb_lt (ev_tmp rfl) (lt_agg (lc_cons lt_refl (lc_cons (lt_arr (List.mem_of_getElem? (i := 2) rfl) le_refl_e) (lc_cons (lt_arr (List.mem_of_getElem? (i := 3) rfl) le_refl_e) lc_nil))))) evlb_nil)) ?_
  refine sq_plain rfl rfl rfl (w_not rfl (ev_tmp rfl)) ?_
  refine sq_nil ?_
  refine awp_cond (ev_tmp rfl) ?_ ?_
  · intro h10
    have he : nextP p = (noPlaces, false) := by unfold nextP; rw [if_pos h10]
    rw [he]
    refine awp_seq ?_
    refine awp_region ?_
    refine sq_plain rfl rfl rfl (w_build (places := #[(0, 1), (1, 1), (2, 1)]) rfl Try.underlying57 Try.zeroValue57 (fun w => by kernel_rfl) rfl bp_nil rfl) ?_
    refine sq_storeB0 0 rfl rfl rfl (ev_tmp rfl) (ev_tmp rfl) (as_agg _) rfl Try.sizeOf57 rfl ?_
    refine sq_plain rfl rfl rfl (w_assign rfl ev_cb) ?_
    refine sq_nil ?_
    refine awp_ret ?_
    refine retG_nil 9 1 ?_
    refine retG_nil 3 1 ?_
    exact retG [1, 0] ((Value.slice none 0 0), (Value.slice none 0 0)) (trivial) rfl (by rfl) (resN rfl (by decide) (rv_cons (rv_cell (ys := _) 2 rfl rfl Try.isAgg57 Try.sizeOf57 rfl) (rv_cons (rv_tmp' rfl (by rfl)) rv_nil)))
  · intro h10
    have he : nextP p = (bump p, true) := by unfold nextP; rw [if_neg (by rw [h10]; decide)]
    rw [he]
    refine awp_skip ?_
    refine awp_seq ?_
    refine awp_region ?_
    refine sq_plain rfl rfl rfl (w_loadA 1 rfl (ev_tmp rfl) rfl Try.isAgg57 Try.sizeOf57 rfl) ?_
    refine sq_storeB0 0 rfl rfl rfl (ev_tmp rfl) (ev_tmp rfl) (as_agg _) rfl Try.sizeOf57 rfl ?_
    refine sq_plain rfl rfl rfl (w_assign rfl ev_cb) ?_
    refine sq_nil ?_
    refine awp_ret ?_
    exact retG [2, 2] (x.1, x.2) (trivial) rfl (by rfl) (resN rfl (by decide) (rv_cons (rv_cell (ys := _) 0 rfl rfl Try.isAgg57 Try.sizeOf57 rfl) (rv_cons (rv_tmp' rfl (by rfl)) rv_nil)))
theorem nextS_own (p : TPlaces) (x : Value × Value) (hs : p.size ≤ 4194304) (hv : 0 ≤ p.Ver ∧ p.Ver ≤ 50) : GSpec Try.prog 103 [AV.agg (TPlaces.ocs p x)] (TPlaces.ow p x) (fun _ : Value × Value => True) (fun y => TPlaces.ow (nextS p).1 y) (fun y => AV.tup [AV.agg (TPlaces.ocs (nextS p).1 y), AV.bool (nextS p).2]) := by
  refine gspec_of_awp Try.func103 rfl Try.ntmps103 rfl ?_
  refine awp_seq ?_
  refine awp_region ?_
  refine sq_box rfl rfl rfl rfl (ev_tmp rfl) ?_
  intro b1
  refine sq_alloc rfl rfl rfl rfl Try.zeroValue57 rfl ?_
  intro b2
  refine sq_plain rfl rfl rfl (w_assign rfl ev_cb) ?_
  refine sq_nil ?_
  refine awp_seq ?_
  refine awp_region ?_
  refine sq_plain rfl rfl rfl (w_fldBn 0 rfl Try.underlying57 rfl Try.sizeOf3 (ev_tmp rfl) rfl) ?_
  refine sq_plain rfl rfl rfl (w_loadB1 1 rfl (ev_tmp rfl) rfl Try.isAgg3 rfl) ?_
  refine sq_plain rfl rfl rfl (w_addi rfl (ev_tmp rfl) ev_ci (by first | omega | ((try simp only [List.length_map, List.length_take, List.length_cons, List.length_nil, chunks_len, szR] at *); omega) | (have hc2 := hc; simp only [Bool.and_eq_true, Bool.or_eq_true, Bool.or_eq_false_iff, Bool.and_eq_false_iff, Bool.not_eq_true', Bool.not_eq_false', decide_eq_true_eq, decide_eq_false_iff_not, beq_iff_eq, bne_iff_ne, List.length_map, List.length_take] at hc2; omega))) ?_
  refine sq_plain rfl rfl rfl (w_fldBn 0 rfl Try.underlying57 rfl Try.sizeOf3 (ev_tmp rfl) rfl) ?_
  refine sq_storeB1 1 rfl rfl rfl (ev_tmp rfl) (ev_tmp rfl) (as_ik _ _) rfl Try.sizeOf3 rfl ?_
  refine sq_nil ?_
  refine awp_seq ?_
  refine awp_seq ?_
  refine awp_region ?_
  refine sq_plain rfl rfl rfl (w_loadA 1 rfl (ev_tmp rfl) rfl Try.isAgg57 Try.sizeOf57 rfl) ?_
  refine sq_plain rfl rfl rfl (w_callB rfl Try.call35 rfl (goodPlacesS_spec (bump p) hs) (flat_bool _) (evlb_cons (evb_lt (ev_tmp rfl) (lt_agg (lc_cons lt_refl (lc_cons (lt_arr (List.mem_of_getElem? (i := 2) rfl) le_refl_e) (lc_cons (lt_arr (List.mem_of_getElem? (i := 3) rfl) le_refl_e) lc_nil))))) evlb_nil)) ?_
  refine sq_plain rfl rfl rfl (w_not rfl (ev_tmp rfl)) ?_
  refine sq_nil ?_
  refine awp_cond (ev_tmp rfl) ?_ ?_
  · intro h10
    have he : nextS p = (noPlaces, false) := by unfold nextS; rw [if_pos h10]
    rw [he]
    refine awp_seq ?_
    refine awp_region ?_
    refine sq_plain rfl rfl rfl (w_build (places := #[(0, 1), (1, 1), (2, 1)]) rfl Try.underlying57 Try.zeroValue57 (fun w => by kernel_rfl) rfl bp_nil rfl) ?_
    refine sq_storeB0 0 rfl rfl rfl (ev_tmp rfl) (ev_tmp rfl) (as_agg _) rfl Try.sizeOf57 rfl ?_
    refine sq_plain rfl rfl rfl (w_assign rfl ev_cb) ?_
    refine sq_nil ?_
    refine awp_ret ?_
    refine retG_nil 9 1 ?_
    refine retG_nil 3 1 ?_
    exact retG [1, 0] ((Value.slice none 0 0), (Value.slice none 0 0)) (trivial) rfl (by rfl) (resN rfl (by decide) (rv_cons (rv_cell (ys := _) 2 rfl rfl Try.isAgg57 Try.sizeOf57 rfl) (rv_cons (rv_tmp' rfl (by rfl)) rv_nil)))
  · intro h10
    have he : nextS p = (bump p, true) := by unfold nextS; rw [if_neg (by rw [h10]; decide)]
    rw [he]
    refine awp_skip ?_
    refine awp_seq ?_
    refine awp_region ?_
    refine sq_plain rfl rfl rfl (w_loadA 1 rfl (ev_tmp rfl) rfl Try.isAgg57 Try.sizeOf57 rfl) ?_
    refine sq_storeB0 0 rfl rfl rfl (ev_tmp rfl) (ev_tmp rfl) (as_agg _) rfl Try.sizeOf57 rfl ?_
    refine sq_plain rfl rfl rfl (w_assign rfl ev_cb) ?_
    refine sq_nil ?_
    refine awp_ret ?_
    exact retG [2, 2] (x.1, x.2) (trivial) rfl (by rfl) (resN rfl (by decide) (rv_cons (rv_cell (ys := _) 0 rfl rfl Try.isAgg57 Try.sizeOf57 rfl) (rv_cons (rv_tmp' rfl (by rfl)) rv_nil)))
theorem splitAt_own (p : TPlaces) (key : Str) (hs : p.size ≤ 2097152) (hk : key.length ≤ 1048576) : GSpec Try.prog 25 [AV.agg p.cs, AV.str key] [] (fun _ : Value × Value => True) (fun x => TPlaces.ow (splitAt p key).1 x) (fun x => AV.tup [AV.agg (TPlaces.ocs (splitAt p key).1 x), AV.bool (splitAt p key).2]) := by
  have hz := insP_size p (partOf p.Cuts key) key
  have hle := partOf_le p.Cuts key
  refine gspec_of_awp Try.func25 rfl Try.ntmps25 rfl ?_
  refine awp_seq ?_
  refine awp_region ?_
  refine sq_box rfl rfl rfl rfl (ev_tmp rfl) ?_
  intro b2
  refine sq_alloc rfl rfl rfl rfl Try.zeroValue57 rfl ?_
  intro b4
  refine sq_plain rfl rfl rfl (w_assign rfl ev_cb) ?_
  refine sq_nil ?_
  refine awp_seq ?_
  refine awp_seq ?_
  refine awp_region ?_
  refine sq_plain rfl rfl rfl (w_loadA 1 rfl (ev_tmp rfl) rfl Try.isAgg57 Try.sizeOf57 rfl) ?_
  refine sq_plain rfl rfl rfl (w_call rfl Try.call34 rfl (goodPlaces_spec _ (by first | assumption | omega)) (evl_cons (ev_tmp rfl) evl_nil)) ?_
  refine sq_plain rfl rfl rfl (w_not rfl (ev_tmp rfl)) ?_
  refine sq_plain rfl rfl rfl (w_move rfl (ev_tmp rfl)) ?_
  refine sq_grd rfl rfl (guard_f rfl rfl rfl) (fun hc => w_move rfl (ev_tmp rfl)) ?_
  refine sq_grd rfl rfl (guard_f rfl rfl rfl) (fun hc => w_call rfl Try.call73 rfl (goodKey_spec _ (by omega)) (evl_cons (ev_whn rfl hc) evl_nil)) ?_
  refine sq_grd rfl rfl (guard_f rfl rfl rfl) (fun hc => w_not rfl (ev_whn rfl hc)) ?_
  refine sq_plain rfl rfl rfl (w_or rfl (ev_tmp rfl) (evif_w rfl)) ?_
  refine sq_plain rfl rfl rfl (w_move rfl (ev_tmp rfl)) ?_
  refine sq_grd rfl rfl (guard_f rfl rfl rfl) (fun hc => w_fldBn 1 rfl Try.underlying57 rfl Try.sizeOf52 (ev_tmp rfl) rfl) ?_
  refine sq_grd rfl rfl (guard_f rfl rfl rfl) (fun hc => w_loadB1 1 rfl (ev_whn rfl hc) rfl Try.isAgg52 rfl) ?_
  refine sq_grd rfl rfl (guard_f rfl rfl rfl) (fun hc => w_move rfl (ev_tmp rfl)) ?_
  refine sq_grd rfl rfl (guard_f rfl rfl rfl) (fun hc => w_call rfl Try.call94 rfl (containsString_spec _ _) (evl_cons (ev_whn rfl hc) (evl_cons (ev_whn rfl hc) evl_nil))) ?_
  refine sq_plain rfl rfl rfl (w_or rfl (ev_tmp rfl) (evif_w rfl)) ?_
  refine sq_nil ?_
  refine awp_cond (ev_tmp rfl) ?_ ?_
  · intro h21
    have he : splitAt p key = (noPlaces, false) := by unfold splitAt; rw [if_pos h21]
    rw [he]
    refine awp_seq ?_
    refine awp_region ?_
    refine sq_plain rfl rfl rfl (w_build (places := #[(0, 1), (1, 1), (2, 1)]) rfl Try.underlying57 Try.zeroValue57 (fun w => by kernel_rfl) rfl bp_nil rfl) ?_
    refine sq_storeB0 0 rfl rfl rfl (ev_tmp rfl) (ev_tmp rfl) (as_agg _) rfl Try.sizeOf57 rfl ?_
    refine sq_plain rfl rfl rfl (w_assign rfl ev_cb) ?_
    refine sq_nil ?_
    refine awp_ret ?_
    refine retG_nil 9 1 ?_
    refine retG_nil 3 1 ?_
    exact retG [1, 0] ((Value.slice none 0 0), (Value.slice none 0 0)) (trivial) rfl (by rfl) (resN rfl (by decide) (rv_cons (rv_cell (ys := _) 2 rfl rfl Try.isAgg57 Try.sizeOf57 rfl) (rv_cons (rv_tmp' rfl (by rfl)) rv_nil)))
  · intro h21
    have hg : goodPlaces p = true := by cases hg : goodPlaces p with | true => rfl | false => (rw [hg] at h21; simp at h21)
    obtain ⟨v0, v1, hc4, hgl, _, _⟩ := good_facts hg
    have he : splitAt p key = nextP (insP p (partOf p.Cuts key) key) := by unfold splitAt; rw [if_neg (by rw [h21]; decide)]
    rw [he]
    obtain ⟨y, hy⟩ := get_some (show partOf p.Cuts key < p.Groups.length by omega)
    refine awp_skip ?_
    refine awp_seq ?_
    refine awp_region ?_
    refine sq_plain rfl rfl rfl (w_loadA 1 rfl (ev_tmp rfl) rfl Try.isAgg57 Try.sizeOf57 rfl) ?_
    refine sq_callG [] rfl rfl rfl rfl Try.call95 rfl (copyPlaces_own _ (by first | assumption | omega)) (evl_cons (ev_tmp rfl) evl_nil) rfl ?_
    intro x24 ok24
    refine sq_alloc rfl rfl rfl rfl Try.zeroValue57 rfl ?_
    intro b6
    refine sq_storeB0 0 rfl rfl rfl (ev_tmp rfl) (ev_tmp rfl) (as_agg _) rfl Try.sizeOf57 rfl ?_
    refine sq_nil ?_
    refine awp_seq ?_
    refine awp_region ?_
    refine sq_plain rfl rfl rfl (w_fldBn 1 rfl Try.underlying57 rfl Try.sizeOf52 (ev_tmp rfl) rfl) ?_
    refine sq_plain rfl rfl rfl (w_loadB1 4 rfl (ev_tmp rfl) rfl Try.isAgg52 rfl) ?_
    refine sq_plain rfl rfl rfl (w_move rfl (ev_tmp rfl)) ?_
    refine sq_plain rfl rfl rfl (w_call rfl Try.call96 rfl (partOf_spec _ _) (evl_cons (ev_tmp rfl) (evl_cons (ev_tmp rfl) evl_nil))) ?_
    refine sq_plain rfl rfl rfl (w_assign rfl (ev_tmp rfl)) ?_
    refine sq_nil ?_
    refine awp_seq ?_
    refine awp_region ?_
    refine sq_plain rfl rfl rfl (w_fldBn 1 rfl Try.underlying57 rfl Try.sizeOf52 (ev_tmp rfl) rfl) ?_
    refine sq_plain rfl rfl rfl (w_loadB1 0 rfl (ev_tmp rfl) rfl Try.isAgg52 rfl) ?_
    refine sq_plain rfl rfl rfl (w_move rfl (ev_tmp rfl)) ?_
    refine sq_plain rfl rfl rfl (w_move rfl (ev_tmp rfl)) ?_
    refine sq_bsliceO rfl rfl rfl rfl Try.underlying52 Try.sizeOf9 Try.zeroValue9 rfl rfl rfl rfl (bp_cons (ev_tmp rfl) (as_str _) bp_nil) rfl rfl ?_
    intro v33
    refine sq_callG [2, 0] rfl rfl rfl rfl Try.call97 rfl (insertString_own _ _ p.Cuts key (partOf p.Cuts key) hle (by omega)) (evl_cons (ev_tmp rfl) (evl_cons (ev_tmp rfl) (evl_cons (ev_tmp rfl) evl_nil))) rfl ?_
    intro x34 ok34
    refine sq_plain rfl rfl rfl (w_fldBn 1 rfl Try.underlying57 rfl Try.sizeOf52 (ev_tmp rfl) rfl) ?_
    refine sq_fact 0 rfl fun one_x34 => ?_
    refine sq_storeB1 1 rfl rfl rfl (ev_tmp rfl) (ev_tmp rfl) (as_is one_x34) rfl Try.sizeOf52 rfl ?_
    refine sq_nil ?_
    refine awp_seq ?_
    refine AWP.le (le_pick [1, 3] rfl) ?_
    refine awp_region_mix _ [(0, false), (1, false), (2, false), (3, false), (4, false), (5, false), (6, false), (7, false), (8, true), (9, true)] (by kernel_rfl) (by kernel_rfl) rfl (invx_take 2) ?_
    refine bc_plain rfl rfl rfl (fun ext => w_fldBn 2 rfl Try.underlying57 rfl Try.sizeOf55 (ev_tmp rfl) rfl) ?_
    refine bc_plain rfl rfl rfl (fun ext => w_loadB1 0 rfl (ev_tmp rfl) rfl Try.isAgg55 rfl) ?_
    refine bc_plain rfl rfl rfl (fun ext => w_move rfl (ev_tmp rfl)) ?_
    refine bc_plain rfl rfl rfl (fun ext => w_fldBn 2 rfl Try.underlying57 rfl Try.sizeOf55 (ev_tmp rfl) rfl) ?_
    refine bc_plain rfl rfl rfl (fun ext => w_loadB1 1 rfl (ev_tmp rfl) rfl Try.isAgg55 rfl) ?_
    refine bc_plain rfl rfl rfl (fun ext => w_move rfl (ev_tmp rfl)) ?_
    refine bc_plain rfl rfl rfl (fun ext => w_idxm rfl Try.underlying55 Try.sizeOf3 (ev_tmp rfl) (ev_tmp rfl) hy (by first | omega | ((try simp only [List.length_map, List.length_take, List.length_cons, List.length_nil, chunks_len, szR] at *); omega) | (have hc2 := hc; simp only [Bool.and_eq_true, Bool.or_eq_true, Bool.or_eq_false_iff, Bool.and_eq_false_iff, Bool.not_eq_true', Bool.not_eq_false', decide_eq_true_eq, decide_eq_false_iff_not, beq_iff_eq, bne_iff_ne, List.length_map, List.length_take] at hc2; omega))) ?_
    refine bc_plain rfl rfl rfl (fun ext => w_loadE1 rfl (ev_tmp rfl) Try.isAgg3 rfl) ?_
    refine bc_eff rfl rfl rfl (opE_bslice rfl Try.underlying55 Try.sizeOf3 Try.zeroValue3 rfl rfl rfl rfl (bp_cons (ev_tmp rfl) (as_ik _ _) bp_nil) rfl rfl) (fun a _ => (by first | exact invx_mk rfl | exact invx_mk (List.append_assoc _ _ _) | exact invx_all)) ?_
    intro v44 _
    refine bc_eff rfl rfl rfl (opE_call [3, 4] rfl Try.call98 rfl (insertInt_own _ _ p.Groups y (partOf p.Cuts key) (by omega) (by omega)) (evl_cons (ev_tmp rfl) (evl_cons (ev_tmp rfl) (evl_cons (ev_tmp rfl) evl_nil))) rfl) (fun a _ => (by first | exact invx_mk rfl | exact invx_mk (List.append_assoc _ _ _) | exact invx_all)) ?_
    intro x45 ok45
    refine bc_nil ?_
    refine sq_plain rfl rfl rfl (w_fldBn 2 rfl Try.underlying57 rfl Try.sizeOf55 (ev_tmp rfl) rfl) ?_
    refine sq_fact 4 rfl fun one_x45 => ?_
    refine sq_storeB1 0 rfl rfl rfl (ev_tmp rfl) (ev_tmp rfl) (as_is one_x45) rfl Try.sizeOf55 rfl ?_
    refine sq_nil ?_
    refine awp_seq ?_
    refine awp_region ?_
    have hyg : p.Groups.take (partOf p.Cuts key) ++ y :: p.Groups.drop (partOf p.Cuts key) = (insP p (partOf p.Cuts key) key).Groups := by unfold insP; rw [List.getD_eq_getElem?_getD, hy]; rfl
    rw [hyg]
    refine sq_plain rfl rfl rfl (w_loadA 0 rfl (ev_tmp rfl) rfl Try.isAgg57 Try.sizeOf57 rfl) ?_
    refine sq_own (by first | (simp only [TPlaces.ow, TPlaces.ocs, pick, List.eraseIdx_cons_zero, List.eraseIdx_cons_succ, List.set_cons_zero, List.set_cons_succ, List.cons_append, List.nil_append, List.getElem?_cons_zero, List.getElem?_cons_succ, List.append_nil]; exact rfl) | exact rfl) ?_
    refine sq_callG [2, 3] rfl rfl rfl rfl Try.call99 rfl (next_own (insP p (partOf p.Cuts key) key) (x34, x45) (by omega) ⟨v0, v1⟩) (evl_cons (ev_tmp rfl) evl_nil) rfl ?_
    intro x48 ok48
    refine sq_plain rfl rfl rfl (w_extract rfl (ev_tmp rfl) rfl) ?_
    refine sq_plain rfl rfl rfl (w_extract rfl (ev_tmp rfl) rfl) ?_
    refine sq_storeB0 4 rfl rfl rfl (ev_tmp rfl) (ev_tmp rfl) (as_agg _) rfl Try.sizeOf57 rfl ?_
    refine sq_plain rfl rfl rfl (w_assign rfl (ev_tmp rfl)) ?_
    refine sq_nil ?_
    refine awp_ret ?_
    exact retG [0, 0] (x48.1, x48.2) (trivial) rfl (by rfl) (resN rfl (by decide) (rv_cons (rv_cell (ys := _) 4 rfl rfl Try.isAgg57 Try.sizeOf57 rfl) (rv_cons (rv_tmp' rfl (by rfl)) rv_nil)))
theorem splitAt_spec (p : TPlaces) (key : Str) (hs : p.size ≤ 2097152) (hk : key.length ≤ 1048576) : FSpec Try.prog 25 [AV.agg p.cs, AV.str key] (AV.tup [AV.agg (splitAt p key).1.cs, AV.bool (splitAt p key).2]) :=
  fspec_of_gspec (splitAt_own p key hs hk) fun x _ => lt_tup (lc_cons (lt_agg (TPlaces.lc _ x)) (lc_cons lt_refl lc_nil))
theorem splitAtS_own (p : TPlaces) (key : Str) (hs : p.size ≤ 2097152) (hk : key.length ≤ 1048576) : GSpec Try.prog 26 [AV.agg p.cs, AV.str key] [] (fun _ : Value × Value => True) (fun x => TPlaces.ow (splitAtS p key).1 x) (fun x => AV.tup [AV.agg (TPlaces.ocs (splitAtS p key).1 x), AV.bool (splitAtS p key).2]) := by
  have hz := insP_size p (rangeS p.Cuts key) key
  have hle := rangeS_le p.Cuts key
  have hs' := hs; unfold TPlaces.size at hs'
  have hf : p.Cuts.length ≤ 4194304 := Nat.le_trans sizeL_len (show sizeL (fun x : Str => x.length) p.Cuts ≤ 4194304 by omega)
  have hpos : decide (0 ≤ idxFrom (fun x => x == key) p.Cuts 0) = p.Cuts.any fun x => key == x := by rw [idxFrom_any _ _ _ (by omega)]; congr 1; funext x; exact Bool.beq_comm
  refine gspec_of_awp Try.func26 rfl Try.ntmps26 rfl ?_
  refine awp_seq ?_
  refine awp_region ?_
  refine sq_box rfl rfl rfl rfl (ev_tmp rfl) ?_
  intro b2
  refine sq_alloc rfl rfl rfl rfl Try.zeroValue57 rfl ?_
  intro b4
  refine sq_plain rfl rfl rfl (w_assign rfl ev_cb) ?_
  refine sq_nil ?_
  refine awp_seq ?_
  refine awp_seq ?_
  refine awp_region ?_
  refine sq_plain rfl rfl rfl (w_loadA 1 rfl (ev_tmp rfl) rfl Try.isAgg57 Try.sizeOf57 rfl) ?_
  refine sq_plain rfl rfl rfl (w_call rfl Try.call35 rfl (goodPlacesS_spec _ (by first | assumption | omega)) (evl_cons (ev_tmp rfl) evl_nil)) ?_
  refine sq_plain rfl rfl rfl (w_not rfl (ev_tmp rfl)) ?_
  refine sq_plain rfl rfl rfl (w_move rfl (ev_tmp rfl)) ?_
  refine sq_grd rfl rfl (guard_f rfl rfl rfl) (fun hc => w_move rfl (ev_tmp rfl)) ?_
  refine sq_grd rfl rfl (guard_f rfl rfl rfl) (fun hc => w_call rfl Try.call77 rfl (l3Key_spec _ (by omega)) (evl_cons (ev_whn rfl hc) evl_nil)) ?_
  refine sq_grd rfl rfl (guard_f rfl rfl rfl) (fun hc => w_not rfl (ev_whn rfl hc)) ?_
  refine sq_plain rfl rfl rfl (w_or rfl (ev_tmp rfl) (evif_w rfl)) ?_
  refine sq_plain rfl rfl rfl (w_move rfl (ev_tmp rfl)) ?_
  refine sq_grd rfl rfl (guard_f rfl rfl rfl) (fun hc => w_fldBn 1 rfl Try.underlying57 rfl Try.sizeOf52 (ev_tmp rfl) rfl) ?_
  refine sq_grd rfl rfl (guard_f rfl rfl rfl) (fun hc => w_loadB1 1 rfl (ev_whn rfl hc) rfl Try.isAgg52 rfl) ?_
  refine sq_grd rfl rfl (guard_f rfl rfl rfl) (fun hc => w_move rfl (ev_tmp rfl)) ?_
  refine sq_grd rfl rfl (guard_f rfl rfl rfl) (fun hc => w_call rfl Try.call100 rfl (l24At_spec _ _) (evl_cons (ev_whn rfl hc) (evl_cons (ev_whn rfl hc) evl_nil))) ?_
  refine sq_grd rfl rfl (guard_f rfl rfl rfl) (fun hc => w_geq rfl (ev_whn rfl hc) ev_ci) ?_
  refine sq_plain rfl rfl rfl (w_or rfl (ev_tmp rfl) (evif_w rfl)) ?_
  refine sq_plain rfl rfl rfl (w_move rfl (ev_tmp rfl)) ?_
  refine sq_grd rfl rfl (guard_f rfl rfl rfl) (fun hc => w_fldBn 1 rfl Try.underlying57 rfl Try.sizeOf52 (ev_tmp rfl) rfl) ?_
  refine sq_grd rfl rfl (guard_f rfl rfl rfl) (fun hc => w_loadB1 1 rfl (ev_whn rfl hc) rfl Try.isAgg52 rfl) ?_
  refine sq_grd rfl rfl (guard_f rfl rfl rfl) (fun hc => w_llen rfl Try.underlying52 (ev_whn rfl hc)) ?_
  refine sq_grd rfl rfl (guard_f rfl rfl rfl) (fun hc => w_geq rfl (ev_whn rfl hc) ev_ci) ?_
  refine sq_plain rfl rfl rfl (w_or rfl (ev_tmp rfl) (evif_w rfl)) ?_
  refine sq_nil ?_
  refine awp_cond (ev_tmp rfl) ?_ ?_
  · intro h28
    have he : splitAtS p key = (noPlaces, false) := by unfold splitAtS; rw [← hpos]; rw [if_pos (by simpa only [List.length_map] using h28)]
    rw [he]
    refine awp_seq ?_
    refine awp_region ?_
    refine sq_plain rfl rfl rfl (w_build (places := #[(0, 1), (1, 1), (2, 1)]) rfl Try.underlying57 Try.zeroValue57 (fun w => by kernel_rfl) rfl bp_nil rfl) ?_
    refine sq_storeB0 0 rfl rfl rfl (ev_tmp rfl) (ev_tmp rfl) (as_agg _) rfl Try.sizeOf57 rfl ?_
    refine sq_plain rfl rfl rfl (w_assign rfl ev_cb) ?_
    refine sq_nil ?_
    refine awp_ret ?_
    refine retG_nil 9 1 ?_
    refine retG_nil 3 1 ?_
    exact retG [1, 0] ((Value.slice none 0 0), (Value.slice none 0 0)) (trivial) rfl (by rfl) (resN rfl (by decide) (rv_cons (rv_cell (ys := _) 2 rfl rfl Try.isAgg57 Try.sizeOf57 rfl) (rv_cons (rv_tmp' rfl (by rfl)) rv_nil)))
  · intro h28
    have hg : goodPlacesS p = true := by cases hg : goodPlacesS p with | true => rfl | false => (rw [hg] at h28; simp at h28)
    rw [← goodPlaces_eq] at hg
    obtain ⟨v0, v1, hc4, hgl, _, _⟩ := good_facts hg
    have he : splitAtS p key = nextS (insP p (rangeS p.Cuts key) key) := by unfold splitAtS; rw [← hpos]; rw [if_neg (by simp only [List.length_map] at h28; rw [h28]; decide)]
    rw [he]
    obtain ⟨y, hy⟩ := get_some (show rangeS p.Cuts key < p.Groups.length by omega)
    refine awp_skip ?_
    refine awp_seq ?_
    refine awp_region ?_
    refine sq_plain rfl rfl rfl (w_loadA 1 rfl (ev_tmp rfl) rfl Try.isAgg57 Try.sizeOf57 rfl) ?_
    refine sq_plain rfl rfl rfl (w_move rfl (ev_tmp rfl)) ?_
    refine sq_plain rfl rfl rfl (w_call rfl Try.call101 rfl (l20Range_spec _ _ (by first | assumption | omega)) (evl_cons (ev_tmp rfl) (evl_cons (ev_tmp rfl) evl_nil))) ?_
    refine sq_plain rfl rfl rfl (w_assign rfl (ev_tmp rfl)) ?_
    refine sq_nil ?_
    refine awp_seq ?_
    refine awp_region ?_
    refine sq_plain rfl rfl rfl (w_fldBn 0 rfl Try.underlying57 rfl Try.sizeOf3 (ev_tmp rfl) rfl) ?_
    refine sq_plain rfl rfl rfl (w_loadB1 1 rfl (ev_tmp rfl) rfl Try.isAgg3 rfl) ?_
    refine sq_plain rfl rfl rfl (w_build (places := #[(0, 1), (1, 1), (2, 1)]) rfl Try.underlying57 Try.zeroValue57 (fun w => by kernel_rfl) rfl (bp_cons (ev_tmp rfl) (as_ik _ _) bp_nil) rfl) ?_
    refine sq_alloc rfl rfl rfl rfl Try.zeroValue57 rfl ?_
    intro b7
    refine sq_storeB0 0 rfl rfl rfl (ev_tmp rfl) (ev_tmp rfl) (as_agg _) rfl Try.sizeOf57 rfl ?_
    refine sq_nil ?_
    refine awp_seq ?_
    refine awp_region_mix _ [(1, false), (2, false), (3, false), (4, false), (6, false), (7, false), (9, false), (10, false), (11, false), (12, false), (0, true), (5, true), (8, true), (13, true)] (by kernel_rfl) (by kernel_rfl) rfl invx_self ?_
    refine bc_plain rfl rfl rfl (fun ext => w_fldBn 1 rfl Try.underlying57 rfl Try.sizeOf52 (ev_tmp rfl) rfl) ?_
    refine bc_plain rfl rfl rfl (fun ext => w_loadB1 2 rfl (ev_tmp rfl) rfl Try.isAgg52 rfl) ?_
    refine bc_plain rfl rfl rfl (fun ext => w_move rfl (ev_tmp rfl)) ?_
    refine bc_plain rfl rfl rfl (fun ext => w_lsl_him rfl Try.underlying52 Try.sizeOf9 (ev_tmp rfl) (ev_tmp rfl) (by first | omega | ((try simp only [List.length_map, List.length_take, List.length_cons, List.length_nil, chunks_len, szR] at *); omega) | (have hc2 := hc; simp only [Bool.and_eq_true, Bool.or_eq_true, Bool.or_eq_false_iff, Bool.and_eq_false_iff, Bool.not_eq_true', Bool.not_eq_false', decide_eq_true_eq, decide_eq_false_iff_not, beq_iff_eq, bne_iff_ne, List.length_map, List.length_take] at hc2; omega)) (by first | omega | ((try simp only [List.length_map, List.length_take, List.length_cons, List.length_nil, chunks_len, szR] at *); omega) | (have hc2 := hc; simp only [Bool.and_eq_true, Bool.or_eq_true, Bool.or_eq_false_iff, Bool.and_eq_false_iff, Bool.not_eq_true', Bool.not_eq_false', decide_eq_true_eq, decide_eq_false_iff_not, beq_iff_eq, bne_iff_ne, List.length_map, List.length_take] at hc2; omega))) ?_
    refine bc_plain rfl rfl rfl (fun ext => w_move rfl (ev_tmp rfl)) ?_
    refine bc_plain rfl rfl rfl (fun ext => w_bslice rfl Try.underlying52 Try.sizeOf9 Try.zeroValue9 rfl rfl rfl rfl (bp_cons (ev_tmp rfl) (as_str _) bp_nil) rfl rfl) ?_
    refine bc_plain rfl rfl rfl (fun ext => w_fldBn 1 rfl Try.underlying57 rfl Try.sizeOf52 (ev_tmp rfl) rfl) ?_
    refine bc_plain rfl rfl rfl (fun ext => w_loadB1 2 rfl (ev_tmp rfl) rfl Try.isAgg52 rfl) ?_
    refine bc_plain rfl rfl rfl (fun ext => w_move rfl (ev_tmp rfl)) ?_
    refine bc_plain rfl rfl rfl (fun ext => w_lsl_lom rfl Try.underlying52 Try.sizeOf9 (ev_tmp rfl) (ev_tmp rfl) (by first | omega | ((try simp only [List.length_map, List.length_take, List.length_cons, List.length_nil, chunks_len, szR] at *); omega) | (have hc2 := hc; simp only [Bool.and_eq_true, Bool.or_eq_true, Bool.or_eq_false_iff, Bool.and_eq_false_iff, Bool.not_eq_true', Bool.not_eq_false', decide_eq_true_eq, decide_eq_false_iff_not, beq_iff_eq, bne_iff_ne, List.length_map, List.length_take] at hc2; omega)) (by first | omega | ((try simp only [List.length_map, List.length_take, List.length_cons, List.length_nil, chunks_len, szR] at *); omega) | (have hc2 := hc; simp only [Bool.and_eq_true, Bool.or_eq_true, Bool.or_eq_false_iff, Bool.and_eq_false_iff, Bool.not_eq_true', Bool.not_eq_false', decide_eq_true_eq, decide_eq_false_iff_not, beq_iff_eq, bne_iff_ne, List.length_map, List.length_take] at hc2; omega))) ?_
    refine bc_eff rfl rfl rfl (opE_empty rfl Try.underlying52 Try.sizeOf9) (fun a _ => (by first | exact invx_mk rfl | exact invx_mk (List.append_assoc _ _ _) | exact invx_all)) ?_
    intro v36 _
    refine bc_eff rfl rfl rfl (opE_append (by' := 16) 3 rfl Try.underlying52 Try.type9 rfl rfl rfl rfl rfl rfl (ev_tmp rfl) (ev_tmp rfl) rfl (by simp only [List.length_nil, List.length_map, List.length_take]; omega)) (fun a _ => (by first | exact invx_mk rfl | exact invx_mk (List.append_assoc _ _ _) | exact invx_all)) ?_
    intro v41_3 _
    refine bc_eff rfl rfl rfl (opE_append (by' := 16) 3 rfl Try.underlying52 Try.type9 rfl rfl rfl rfl rfl rfl (ev_tmp rfl) (ev_tmp rfl) rfl (by simp only [chunks_len, List.length_append, List.length_nil, List.length_map, List.length_take, List.length_cons]; omega)) (fun a _ => (by first | exact invx_mk rfl | exact invx_mk (List.append_assoc _ _ _) | exact invx_all)) ?_
    intro v44_4 _
    refine bc_eff rfl rfl rfl (opE_append (by' := 16) 3 rfl Try.underlying52 Try.type9 rfl rfl rfl rfl rfl rfl (ev_tmp rfl) (ev_tmp rfl) rfl (by simp only [chunks_len, List.length_append, List.length_nil, List.length_map, List.length_take, List.length_cons, List.length_drop]; omega)) (fun a _ => (by first | exact invx_mk rfl | exact invx_mk (List.append_assoc _ _ _) | exact invx_all)) ?_
    intro v49_5 _
    refine bc_nil ?_
    refine sq_plain rfl rfl rfl (w_fldBn 1 rfl Try.underlying57 rfl Try.sizeOf52 (ev_tmp rfl) rfl) ?_
    refine sq_fact 3 rfl fun one_v49_5 => ?_
    refine sq_storeB1 0 rfl rfl rfl (ev_tmp rfl) (ev_tmp rfl) (as_is one_v49_5) rfl Try.sizeOf52 rfl ?_
    refine sq_nil ?_
    refine awp_seq ?_
    refine awp_region_mix _ [(0, false), (1, false), (2, false), (3, false), (4, false), (6, false), (7, false), (8, false), (9, false), (10, false), (11, false), (13, false), (14, false), (15, false), (16, false), (17, false), (5, true), (12, true), (18, true)] (by kernel_rfl) (by kernel_rfl) rfl invx_self ?_
    refine bc_plain rfl rfl rfl (fun ext => w_fldBn 2 rfl Try.underlying57 rfl Try.sizeOf55 (ev_tmp rfl) rfl) ?_
    refine bc_plain rfl rfl rfl (fun ext => w_loadB1 2 rfl (ev_tmp rfl) rfl Try.isAgg55 rfl) ?_
    refine bc_plain rfl rfl rfl (fun ext => w_move rfl (ev_tmp rfl)) ?_
    refine bc_plain rfl rfl rfl (fun ext => w_addi rfl (ev_tmp rfl) ev_ci (by first | omega | ((try simp only [List.length_map, List.length_take, List.length_cons, List.length_nil, chunks_len, szR] at *); omega) | (have hc2 := hc; simp only [Bool.and_eq_true, Bool.or_eq_true, Bool.or_eq_false_iff, Bool.and_eq_false_iff, Bool.not_eq_true', Bool.not_eq_false', decide_eq_true_eq, decide_eq_false_iff_not, beq_iff_eq, bne_iff_ne, List.length_map, List.length_take] at hc2; omega))) ?_
    refine bc_plain rfl rfl rfl (fun ext => w_lsl_him rfl Try.underlying55 Try.sizeOf3 (ev_tmp rfl) (ev_tmp rfl) (by first | omega | ((try simp only [List.length_map, List.length_take, List.length_cons, List.length_nil, chunks_len, szR] at *); omega) | (have hc2 := hc; simp only [Bool.and_eq_true, Bool.or_eq_true, Bool.or_eq_false_iff, Bool.and_eq_false_iff, Bool.not_eq_true', Bool.not_eq_false', decide_eq_true_eq, decide_eq_false_iff_not, beq_iff_eq, bne_iff_ne, List.length_map, List.length_take] at hc2; omega)) (by first | omega | ((try simp only [List.length_map, List.length_take, List.length_cons, List.length_nil, chunks_len, szR] at *); omega) | (have hc2 := hc; simp only [Bool.and_eq_true, Bool.or_eq_true, Bool.or_eq_false_iff, Bool.and_eq_false_iff, Bool.not_eq_true', Bool.not_eq_false', decide_eq_true_eq, decide_eq_false_iff_not, beq_iff_eq, bne_iff_ne, List.length_map, List.length_take] at hc2; omega))) ?_
    refine bc_plain rfl rfl rfl (fun ext => w_fldBn 2 rfl Try.underlying57 rfl Try.sizeOf55 (ev_tmp rfl) rfl) ?_
    refine bc_plain rfl rfl rfl (fun ext => w_loadB1 2 rfl (ev_tmp rfl) rfl Try.isAgg55 rfl) ?_
    refine bc_plain rfl rfl rfl (fun ext => w_move rfl (ev_tmp rfl)) ?_
    refine bc_plain rfl rfl rfl (fun ext => w_idxm rfl Try.underlying55 Try.sizeOf3 (ev_tmp rfl) (ev_tmp rfl) hy (by first | omega | ((try simp only [List.length_map, List.length_take, List.length_cons, List.length_nil, chunks_len, szR] at *); omega) | (have hc2 := hc; simp only [Bool.and_eq_true, Bool.or_eq_true, Bool.or_eq_false_iff, Bool.and_eq_false_iff, Bool.not_eq_true', Bool.not_eq_false', decide_eq_true_eq, decide_eq_false_iff_not, beq_iff_eq, bne_iff_ne, List.length_map, List.length_take] at hc2; omega))) ?_
    refine bc_plain rfl rfl rfl (fun ext => w_loadE1 rfl (ev_tmp rfl) Try.isAgg3 rfl) ?_
    refine bc_plain rfl rfl rfl (fun ext => w_bslice rfl Try.underlying55 Try.sizeOf3 Try.zeroValue3 rfl rfl rfl rfl (bp_cons (ev_tmp rfl) (as_ik _ _) bp_nil) rfl rfl) ?_
    refine bc_plain rfl rfl rfl (fun ext => w_fldBn 2 rfl Try.underlying57 rfl Try.sizeOf55 (ev_tmp rfl) rfl) ?_
    refine bc_plain rfl rfl rfl (fun ext => w_loadB1 2 rfl (ev_tmp rfl) rfl Try.isAgg55 rfl) ?_
    refine bc_plain rfl rfl rfl (fun ext => w_move rfl (ev_tmp rfl)) ?_
    refine bc_plain rfl rfl rfl (fun ext => w_addi rfl (ev_tmp rfl) ev_ci (by first | omega | ((try simp only [List.length_map, List.length_take, List.length_cons, List.length_nil, chunks_len, szR] at *); omega) | (have hc2 := hc; simp only [Bool.and_eq_true, Bool.or_eq_true, Bool.or_eq_false_iff, Bool.and_eq_false_iff, Bool.not_eq_true', Bool.not_eq_false', decide_eq_true_eq, decide_eq_false_iff_not, beq_iff_eq, bne_iff_ne, List.length_map, List.length_take] at hc2; omega))) ?_
    refine bc_plain rfl rfl rfl (fun ext => w_lsl_lom rfl Try.underlying55 Try.sizeOf3 (ev_tmp rfl) (ev_tmp rfl) (by first | omega | ((try simp only [List.length_map, List.length_take, List.length_cons, List.length_nil, chunks_len, szR] at *); omega) | (have hc2 := hc; simp only [Bool.and_eq_true, Bool.or_eq_true, Bool.or_eq_false_iff, Bool.and_eq_false_iff, Bool.not_eq_true', Bool.not_eq_false', decide_eq_true_eq, decide_eq_false_iff_not, beq_iff_eq, bne_iff_ne, List.length_map, List.length_take] at hc2; omega)) (by first | omega | ((try simp only [List.length_map, List.length_take, List.length_cons, List.length_nil, chunks_len, szR] at *); omega) | (have hc2 := hc; simp only [Bool.and_eq_true, Bool.or_eq_true, Bool.or_eq_false_iff, Bool.and_eq_false_iff, Bool.not_eq_true', Bool.not_eq_false', decide_eq_true_eq, decide_eq_false_iff_not, beq_iff_eq, bne_iff_ne, List.length_map, List.length_take] at hc2; omega))) ?_
    refine bc_eff rfl rfl rfl (opE_call [] rfl Try.call102 rfl (l1Own_own (p.Groups.take (rangeS p.Cuts key + 1)) (by simp only [List.length_take]; omega)) (evl_cons (ev_tmp rfl) evl_nil) rfl) (fun a _ => (by first | exact invx_mk rfl | exact invx_mk (List.append_assoc _ _ _) | exact invx_all)) ?_
    intro x56 ok56
    refine bc_eff rfl rfl rfl (opE_append (by' := 8) 4 rfl Try.underlying55 Try.type3 rfl rfl rfl rfl rfl rfl (ev_tmp rfl) (ev_tmp rfl) rfl (by simp only [chunks_len, List.length_append, List.length_nil, List.length_map, List.length_take, List.length_cons, List.length_drop]; omega)) (fun a _ => (by first | exact invx_mk rfl | exact invx_mk (List.append_assoc _ _ _) | exact invx_all)) ?_
    intro v63_6 _
    refine bc_eff rfl rfl rfl (opE_append (by' := 8) 4 rfl Try.underlying55 Try.type3 rfl rfl rfl rfl rfl rfl (ev_tmp rfl) (ev_tmp rfl) rfl (by simp only [chunks_len, List.length_append, List.length_nil, List.length_map, List.length_take, List.length_cons, List.length_drop]; omega)) (fun a _ => (by first | exact invx_mk rfl | exact invx_mk (List.append_assoc _ _ _) | exact invx_all)) ?_
    intro v69_7 _
    refine bc_nil ?_
    refine sq_plain rfl rfl rfl (w_fldBn 2 rfl Try.underlying57 rfl Try.sizeOf55 (ev_tmp rfl) rfl) ?_
    refine sq_fact 4 rfl fun one_v69_7 => ?_
    refine sq_storeB1 0 rfl rfl rfl (ev_tmp rfl) (ev_tmp rfl) (as_is one_v69_7) rfl Try.sizeOf55 rfl ?_
    refine sq_nil ?_
    refine awp_seq ?_
    refine awp_region ?_
    refine sq_plain rfl rfl rfl (w_loadA 0 rfl (ev_tmp rfl) rfl Try.isAgg57 Try.sizeOf57 rfl) ?_
    refine sq_own (by first | (simp only [TPlaces.ow, TPlaces.ocs, pick, List.eraseIdx_cons_zero, List.eraseIdx_cons_succ, List.set_cons_zero, List.set_cons_succ, List.cons_append, List.nil_append, List.getElem?_cons_zero, List.getElem?_cons_succ, List.append_nil]; exact rfl) | exact rfl) ?_
    refine sq_callG [3, 3] rfl rfl rfl rfl Try.call103 rfl (gspec_sel (own2 (insC_eq p.Cuts (rangeS p.Cuts key) key) (insG_eq hy)) (nextS_own (insP p (rangeS p.Cuts key) key) (_, _) (by omega) ⟨v0, v1⟩)) (evl_cons (ev_tmp rfl) evl_nil) rfl ?_
    intro x72 ok72
    refine sq_plain rfl rfl rfl (w_extract rfl (ev_tmp rfl) rfl) ?_
    refine sq_plain rfl rfl rfl (w_extract rfl (ev_tmp rfl) rfl) ?_
    refine sq_storeB0 3 rfl rfl rfl (ev_tmp rfl) (ev_tmp rfl) (as_agg _) rfl Try.sizeOf57 rfl ?_
    refine sq_plain rfl rfl rfl (w_assign rfl (ev_tmp rfl)) ?_
    refine sq_nil ?_
    refine awp_ret ?_
    exact retG [0, 0] (x72.1, x72.2) (trivial) rfl (by rfl) (resN rfl (by decide) (rv_cons (rv_cell (ys := _) 3 rfl rfl Try.isAgg57 Try.sizeOf57 rfl) (rv_cons (rv_tmp' rfl (by rfl)) rv_nil)))
theorem splitAtS_spec (p : TPlaces) (key : Str) (hs : p.size ≤ 2097152) (hk : key.length ≤ 1048576) : FSpec Try.prog 26 [AV.agg p.cs, AV.str key] (AV.tup [AV.agg (splitAtS p key).1.cs, AV.bool (splitAtS p key).2]) :=
  fspec_of_gspec (splitAtS_own p key hs hk) fun x _ => lt_tup (lc_cons (lt_agg (TPlaces.lc _ x)) (lc_cons lt_refl lc_nil))
theorem joinAt_own (p : TPlaces) (i : Int) (hs : p.size ≤ 2097152) : GSpec Try.prog 31 [AV.agg p.cs, AV.int i] [] (fun _ : Value × Value => True) (fun x => TPlaces.ow (joinAt p i).1 x) (fun x => AV.tup [AV.agg (TPlaces.ocs (joinAt p i).1 x), AV.bool (joinAt p i).2]) := by
  have hz := delP_size p i.toNat
  obtain ⟨y, hy⟩ := get_any p.Groups i.toNat
  obtain ⟨z, hzz⟩ := get_any p.Groups (i + 1).toNat
  have hgy : isRange p i = true → gAt p i = y := fun h => by have h1 := isRange_facts h; unfold gAt; rw [List.getD_eq_getElem?_getD, hy (by omega)]; rfl
  have hgz : isRange p (i + 1) = true → gAt p (i + 1) = z := fun h => by have h1 := isRange_facts h; unfold gAt; rw [List.getD_eq_getElem?_getD, hzz (by omega)]; rfl
  have hlen : p.Groups.length ≤ 2097152 := by unfold TPlaces.size at hs; omega
  refine gspec_of_awp Try.func31 rfl Try.ntmps31 rfl ?_
  refine awp_seq ?_
  refine awp_region ?_
  refine sq_box rfl rfl rfl rfl (ev_tmp rfl) ?_
  intro b2
  refine sq_alloc rfl rfl rfl rfl Try.zeroValue57 rfl ?_
  intro b4
  refine sq_plain rfl rfl rfl (w_assign rfl ev_cb) ?_
  refine sq_nil ?_
  refine awp_seq ?_
  refine awp_seq ?_
  refine awp_region_any (by kernel_rfl) (by kernel_rfl) rfl ?_
  refine ch_plain rfl rfl (w_loadA 1 rfl (ev_tmp rfl) rfl Try.isAgg57 Try.sizeOf57 rfl) ?_
  refine ch_plain rfl rfl (w_move rfl (ev_tmp rfl)) ?_
  refine ch_plain rfl rfl (w_call rfl Try.call105 rfl (isRange_spec _ _ (by first | assumption | omega)) (evl_cons (ev_tmp rfl) (evl_cons (ev_tmp rfl) evl_nil))) ?_
  refine ch_plain rfl rfl (w_not rfl (ev_tmp rfl)) ?_
  refine ch_plain rfl rfl (w_move rfl (ev_tmp rfl)) ?_
  refine ch_grd rfl (guard_f rfl rfl rfl) (fun hc => w_loadA 1 rfl (ev_tmp rfl) rfl Try.isAgg57 Try.sizeOf57 rfl) ?_
  refine ch_grd rfl (guard_f rfl rfl rfl) (fun hc => w_move rfl (ev_tmp rfl)) ?_
  refine ch_grd rfl (guard_f rfl rfl rfl) (fun hc => w_addi rfl (ev_whn rfl hc) ev_ci (by have h9 := hc; simp only [Bool.not_not] at h9; have := isRange_facts (p := p) (i := i) (by simpa using h9); omega)) ?_
  refine ch_grd rfl (guard_f rfl rfl rfl) (fun hc => w_call rfl Try.call105 rfl (isRange_spec _ _ (by first | assumption | omega)) (evl_cons (ev_whn rfl hc) (evl_cons (ev_whn rfl hc) evl_nil))) ?_
  refine ch_grd rfl (guard_f rfl rfl rfl) (fun hc => w_not rfl (ev_whn rfl hc)) ?_
  refine ch_plain rfl rfl (w_or rfl (ev_tmp rfl) (evif_w rfl)) ?_
  refine ch_plain rfl rfl (w_move rfl (ev_tmp rfl)) ?_
  refine ch_grd rfl (guard_f rfl rfl rfl) (fun hc => w_fldBn 2 rfl Try.underlying57 rfl Try.sizeOf55 (ev_tmp rfl) rfl) ?_
  refine ch_grd rfl (guard_f rfl rfl rfl) (fun hc => w_loadB1 1 rfl (ev_whn rfl hc) rfl Try.isAgg55 rfl) ?_
  refine ch_grd rfl (guard_f rfl rfl rfl) (fun hc => w_move rfl (ev_tmp rfl)) ?_
  refine ch_grd rfl (guard_f rfl rfl rfl) (fun hc => w_idx rfl Try.underlying55 Try.sizeOf3 (ev_whn rfl hc) (ev_whn rfl hc) (by have h9 := hc; have := isRange_facts (p := p) (i := i) (by revert h9; cases isRange p i <;> simp); omega) (by have h9 := hc; have := isRange_facts (p := p) (i := i) (by revert h9; cases isRange p i <;> simp); rw [List.getElem?_map, hy (by omega)]; rfl)) ?_
  refine ch_grd rfl (guard_f rfl rfl rfl) (fun hc => w_loadE1 rfl (ev_whn rfl hc) Try.isAgg3 rfl) ?_
  refine ch_grd rfl (guard_f rfl rfl rfl) (fun hc => w_fldBn 2 rfl Try.underlying57 rfl Try.sizeOf55 (ev_tmp rfl) rfl) ?_
  refine ch_grd rfl (guard_f rfl rfl rfl) (fun hc => w_loadB1 1 rfl (ev_whn rfl hc) rfl Try.isAgg55 rfl) ?_
  refine ch_grd rfl (guard_f rfl rfl rfl) (fun hc => w_move rfl (ev_tmp rfl)) ?_
  refine ch_grd rfl (guard_f rfl rfl rfl) (fun hc => w_addi rfl (ev_whn rfl hc) ev_ci (by have h9 := hc; have := isRange_facts (p := p) (i := i) (by revert h9; cases isRange p i <;> simp); omega)) ?_
  refine ch_grd rfl (guard_f rfl rfl rfl) (fun hc => w_idx rfl Try.underlying55 Try.sizeOf3 (ev_whn rfl hc) (ev_whn rfl hc) (by have h9 := hc; have := isRange_facts (p := p) (i := i) (by revert h9; cases isRange p i <;> simp); omega) (by have h9 := hc; have := isRange_facts (p := p) (i := i + 1) (by revert h9; cases isRange p i <;> cases isRange p (i + 1) <;> simp); rw [List.getElem?_map, hzz (by omega)]; rfl)) ?_
  refine ch_grd rfl (guard_f rfl rfl rfl) (fun hc => w_loadE1 rfl (ev_whn rfl hc) Try.isAgg3 rfl) ?_
  refine ch_grd rfl (guard_f rfl rfl rfl) (fun hc => w_neq rfl (ev_whn rfl hc) (ev_whn rfl hc)) ?_
  refine ch_plain rfl rfl (w_or rfl (ev_tmp rfl) (evif_w rfl)) ?_
  refine ch_nil ?_
  refine awp_cond (ev_tmp rfl) ?_ ?_
  · intro h31
    have he : joinAt p i = (noPlaces, false) := by unfold joinAt; rw [if_pos]; cases h1 : isRange p i <;> cases h2 : isRange p (i + 1) <;> simp_all
    rw [he]
    refine awp_seq ?_
    refine awp_region ?_
    refine sq_plain rfl rfl rfl (w_build (places := #[(0, 1), (1, 1), (2, 1)]) rfl Try.underlying57 Try.zeroValue57 (fun w => by kernel_rfl) rfl bp_nil rfl) ?_
    refine sq_storeB0 0 rfl rfl rfl (ev_tmp rfl) (ev_tmp rfl) (as_agg _) rfl Try.sizeOf57 rfl ?_
    refine sq_plain rfl rfl rfl (w_assign rfl ev_cb) ?_
    refine sq_nil ?_
    refine awp_ret ?_
    refine retG_nil 9 1 ?_
    refine retG_nil 3 1 ?_
    exact retG [1, 0] ((Value.slice none 0 0), (Value.slice none 0 0)) (trivial) rfl (by rfl) (resN rfl (by decide) (rv_cons (rv_cell (ys := _) 2 rfl rfl Try.isAgg57 Try.sizeOf57 rfl) (rv_cons (rv_tmp' rfl (by rfl)) rv_nil)))
  · intro h31
    have hr : isRange p i = true ∧ isRange p (i + 1) = true ∧ (y != z) = false := by cases h1 : isRange p i <;> cases h2 : isRange p (i + 1) <;> simp_all
    have he : joinAt p i = nextP (delP p i.toNat) := by unfold joinAt; rw [if_neg]; rw [hr.1, hr.2.1, hgy hr.1, hgz hr.2.1, hr.2.2]; decide
    rw [he]
    have hf1 := isRange_facts hr.1
    have hf2 := isRange_facts hr.2.1
    obtain ⟨v0, v1, hc4, hgl, _, _⟩ := good_facts hf1.1
    obtain ⟨k, hk⟩ : ∃ k : Nat, i = (k : Int) := ⟨i.toNat, by omega⟩
    subst hk
    refine awp_skip ?_
    refine awp_seq ?_
    refine awp_region ?_
    refine sq_plain rfl rfl rfl (w_loadA 1 rfl (ev_tmp rfl) rfl Try.isAgg57 Try.sizeOf57 rfl) ?_
    refine sq_callG [] rfl rfl rfl rfl Try.call95 rfl (copyPlaces_own _ (by first | assumption | omega)) (evl_cons (ev_tmp rfl) evl_nil) rfl ?_
    intro x34 ok34
    refine sq_alloc rfl rfl rfl rfl Try.zeroValue57 rfl ?_
    intro b6
    refine sq_storeB0 0 rfl rfl rfl (ev_tmp rfl) (ev_tmp rfl) (as_agg _) rfl Try.sizeOf57 rfl ?_
    refine sq_nil ?_
    refine awp_seq ?_
    refine awp_region ?_
    refine sq_plain rfl rfl rfl (w_fldBn 1 rfl Try.underlying57 rfl Try.sizeOf52 (ev_tmp rfl) rfl) ?_
    refine sq_plain rfl rfl rfl (w_loadB1 0 rfl (ev_tmp rfl) rfl Try.isAgg52 rfl) ?_
    refine sq_plain rfl rfl rfl (w_move rfl (ev_tmp rfl)) ?_
    refine sq_plain rfl rfl rfl (w_move rfl (ev_tmp rfl)) ?_
    refine sq_plain rfl rfl rfl (w_addi rfl (ev_tmp rfl) ev_ci (by first | omega | ((try simp only [List.length_map, List.length_take, List.length_cons, List.length_nil, chunks_len, szR] at *); omega) | (have hc2 := hc; simp only [Bool.and_eq_true, Bool.or_eq_true, Bool.or_eq_false_iff, Bool.and_eq_false_iff, Bool.not_eq_true', Bool.not_eq_false', decide_eq_true_eq, decide_eq_false_iff_not, beq_iff_eq, bne_iff_ne, List.length_map, List.length_take] at hc2; omega))) ?_
    refine sq_callG [1] rfl rfl rfl rfl Try.call110 rfl (deleteString_own _ p.Cuts k (by omega) (by omega)) (evl_cons (ev_tmp rfl) (evl_cons (ev_tmp rfl) (evl_cons (ev_tmp rfl) evl_nil))) rfl ?_
    intro x40 ok40
    refine sq_plain rfl rfl rfl (w_fldBn 1 rfl Try.underlying57 rfl Try.sizeOf52 (ev_tmp rfl) rfl) ?_
    refine sq_fact 0 rfl fun one_x40 => ?_
    refine sq_storeB1 1 rfl rfl rfl (ev_tmp rfl) (ev_tmp rfl) (as_is one_x40) rfl Try.sizeOf52 rfl ?_
    refine sq_nil ?_
    refine awp_seq ?_
    refine awp_region ?_
    refine sq_plain rfl rfl rfl (w_fldBn 2 rfl Try.underlying57 rfl Try.sizeOf55 (ev_tmp rfl) rfl) ?_
    refine sq_plain rfl rfl rfl (w_loadB1 1 rfl (ev_tmp rfl) rfl Try.isAgg55 rfl) ?_
    refine sq_plain rfl rfl rfl (w_move rfl (ev_tmp rfl)) ?_
    refine sq_plain rfl rfl rfl (w_move rfl (ev_tmp rfl)) ?_
    refine sq_plain rfl rfl rfl (w_addi rfl (ev_tmp rfl) ev_ci (by first | omega | ((try simp only [List.length_map, List.length_take, List.length_cons, List.length_nil, chunks_len, szR] at *); omega) | (have hc2 := hc; simp only [Bool.and_eq_true, Bool.or_eq_true, Bool.or_eq_false_iff, Bool.and_eq_false_iff, Bool.not_eq_true', Bool.not_eq_false', decide_eq_true_eq, decide_eq_false_iff_not, beq_iff_eq, bne_iff_ne, List.length_map, List.length_take] at hc2; omega))) ?_
    refine sq_callG [2] rfl rfl rfl rfl Try.call111 rfl (deleteInt_own _ p.Groups k (by omega) (by omega)) (evl_cons (ev_tmp rfl) (evl_cons (ev_tmp rfl) (evl_cons (ev_tmp rfl) evl_nil))) rfl ?_
    intro x47 ok47
    refine sq_plain rfl rfl rfl (w_fldBn 2 rfl Try.underlying57 rfl Try.sizeOf55 (ev_tmp rfl) rfl) ?_
    refine sq_fact 0 rfl fun one_x47 => ?_
    refine sq_storeB1 2 rfl rfl rfl (ev_tmp rfl) (ev_tmp rfl) (as_is one_x47) rfl Try.sizeOf55 rfl ?_
    refine sq_nil ?_
    refine awp_seq ?_
    refine awp_region ?_
    refine sq_plain rfl rfl rfl (w_loadA 2 rfl (ev_tmp rfl) rfl Try.isAgg57 Try.sizeOf57 rfl) ?_
    refine sq_own (by first | (simp only [TPlaces.ow, TPlaces.ocs, pick, List.eraseIdx_cons_zero, List.eraseIdx_cons_succ, List.set_cons_zero, List.set_cons_succ, List.cons_append, List.nil_append, List.getElem?_cons_zero, List.getElem?_cons_succ, List.append_nil]; exact rfl) | exact rfl) ?_
    refine sq_callG [1, 0] rfl rfl rfl rfl Try.call99 rfl (next_own (delP p k) (x40, x47) (by have := delP_size p k; omega) ⟨v0, v1⟩) (evl_cons (ev_tmp rfl) evl_nil) rfl ?_
    intro x50 ok50
    refine sq_plain rfl rfl rfl (w_extract rfl (ev_tmp rfl) rfl) ?_
    refine sq_plain rfl rfl rfl (w_extract rfl (ev_tmp rfl) rfl) ?_
    refine sq_storeB0 3 rfl rfl rfl (ev_tmp rfl) (ev_tmp rfl) (as_agg _) rfl Try.sizeOf57 rfl ?_
    refine sq_plain rfl rfl rfl (w_assign rfl (ev_tmp rfl)) ?_
    refine sq_nil ?_
    refine awp_ret ?_
    exact retG [0, 0] (x50.1, x50.2) (trivial) rfl (by rfl) (resN rfl (by decide) (rv_cons (rv_cell (ys := _) 3 rfl rfl Try.isAgg57 Try.sizeOf57 rfl) (rv_cons (rv_tmp' rfl (by rfl)) rv_nil)))
theorem joinAt_spec (p : TPlaces) (i : Int) (hs : p.size ≤ 2097152) : FSpec Try.prog 31 [AV.agg p.cs, AV.int i] (AV.tup [AV.agg (joinAt p i).1.cs, AV.bool (joinAt p i).2]) :=
  fspec_of_gspec (joinAt_own p i hs) fun x _ => lt_tup (lc_cons (lt_agg (TPlaces.lc _ x)) (lc_cons lt_refl lc_nil))
theorem inS_facts {p : TPlaces} {i : Int} {n : Int} (h : (!goodPlacesS p || !within i 0 n) = false) : goodPlaces p = true ∧ 0 ≤ i ∧ i ≤ n := by
  rw [← goodPlaces_eq] at h
  unfold within at h
  simp only [Bool.or_eq_false_iff, Bool.not_eq_false', Bool.and_eq_true, decide_eq_true_eq] at h
  exact ⟨h.1, h.2.1, h.2.2⟩
theorem joinAtS_own (p : TPlaces) (i : Int) (hs : p.size ≤ 2097152) : GSpec Try.prog 32 [AV.agg p.cs, AV.int i] [] (fun _ : Value × Value => True) (fun x => TPlaces.ow (joinAtS p i).1 x) (fun x => AV.tup [AV.agg (TPlaces.ocs (joinAtS p i).1 x), AV.bool (joinAtS p i).2]) := by
  obtain ⟨y, hy⟩ := get_any p.Groups i.toNat
  obtain ⟨z, hzz⟩ := get_any p.Groups (i + 1).toNat
  have hs' := hs; unfold TPlaces.size at hs'
  have hlen : p.Groups.length ≤ 2097152 := by omega
  have hf : p.Cuts.length ≤ 4194304 := Nat.le_trans sizeL_len (show sizeL (fun x : Str => x.length) p.Cuts ≤ 4194304 by omega)
  have hfa : (!goodPlacesS p || !within i 0 ((p.Cuts.length : Int) - 1)) = false → 0 ≤ i ∧ i + 1 < p.Groups.length ∧ gAt p i = y ∧ gAt p (i + 1) = z := fun h => by
    have h1 := inS_facts h
    have h2 := good_facts h1.1
    refine ⟨h1.2.1, by omega, ?_, ?_⟩
    · unfold gAt; rw [List.getD_eq_getElem?_getD, hy (by omega)]; rfl
    · unfold gAt; rw [List.getD_eq_getElem?_getD, hzz (by omega)]; rfl
  refine gspec_of_awp Try.func32 rfl Try.ntmps32 rfl ?_
  refine awp_seq ?_
  refine awp_region ?_
  refine sq_box rfl rfl rfl rfl (ev_tmp rfl) ?_
  intro b2
  refine sq_alloc rfl rfl rfl rfl Try.zeroValue57 rfl ?_
  intro b4
  refine sq_plain rfl rfl rfl (w_assign rfl ev_cb) ?_
  refine sq_nil ?_
  refine awp_seq ?_
  refine awp_seq ?_
  refine awp_region_any (by kernel_rfl) (by kernel_rfl) rfl ?_
  refine ch_plain rfl rfl (w_loadA 1 rfl (ev_tmp rfl) rfl Try.isAgg57 Try.sizeOf57 rfl) ?_
  refine ch_plain rfl rfl (w_call rfl Try.call35 rfl (goodPlacesS_spec _ (by first | assumption | omega)) (evl_cons (ev_tmp rfl) evl_nil)) ?_
  refine ch_plain rfl rfl (w_not rfl (ev_tmp rfl)) ?_
  refine ch_plain rfl rfl (w_move rfl (ev_tmp rfl)) ?_
  refine ch_grd rfl (guard_f rfl rfl rfl) (fun hc => w_move rfl (ev_tmp rfl)) ?_
  refine ch_grd rfl (guard_f rfl rfl rfl) (fun hc => w_fldBn 1 rfl Try.underlying57 rfl Try.sizeOf52 (ev_tmp rfl) rfl) ?_
  refine ch_grd rfl (guard_f rfl rfl rfl) (fun hc => w_loadB1 1 rfl (ev_whn rfl hc) rfl Try.isAgg52 rfl) ?_
  refine ch_grd rfl (guard_f rfl rfl rfl) (fun hc => w_llen rfl Try.underlying52 (ev_whn rfl hc)) ?_
  refine ch_grd rfl (guard_f rfl rfl rfl) (fun hc => w_subi rfl (ev_whn rfl hc) ev_ci (by simp only [List.length_map]; omega)) ?_
  refine ch_grd rfl (guard_f rfl rfl rfl) (fun hc => w_call rfl Try.call107 rfl (l1In_spec _ _ _) (evl_cons (ev_whn rfl hc) (evl_cons ev_ci (evl_cons (ev_whn rfl hc) evl_nil)))) ?_
  refine ch_grd rfl (guard_f rfl rfl rfl) (fun hc => w_not rfl (ev_whn rfl hc)) ?_
  refine ch_plain rfl rfl (w_or rfl (ev_tmp rfl) (evif_w rfl)) ?_
  refine ch_plain rfl rfl (w_move rfl (ev_tmp rfl)) ?_
  refine ch_grd rfl (guard_f rfl rfl rfl) (fun hc => w_fldBn 2 rfl Try.underlying57 rfl Try.sizeOf55 (ev_tmp rfl) rfl) ?_
  refine ch_grd rfl (guard_f rfl rfl rfl) (fun hc => w_loadB1 1 rfl (ev_whn rfl hc) rfl Try.isAgg55 rfl) ?_
  refine ch_grd rfl (guard_f rfl rfl rfl) (fun hc => w_move rfl (ev_tmp rfl)) ?_
  refine ch_grd rfl (guard_f rfl rfl rfl) (fun hc => w_idx rfl Try.underlying55 Try.sizeOf3 (ev_whn rfl hc) (ev_whn rfl hc) (by have h9 := hfa (by simpa using hc); omega) (by have h9 := hfa (by simpa using hc); rw [List.getElem?_map, hy (by omega)]; rfl)) ?_
  refine ch_grd rfl (guard_f rfl rfl rfl) (fun hc => w_loadE1 rfl (ev_whn rfl hc) Try.isAgg3 rfl) ?_
  refine ch_grd rfl (guard_f rfl rfl rfl) (fun hc => w_fldBn 2 rfl Try.underlying57 rfl Try.sizeOf55 (ev_tmp rfl) rfl) ?_
  refine ch_grd rfl (guard_f rfl rfl rfl) (fun hc => w_loadB1 1 rfl (ev_whn rfl hc) rfl Try.isAgg55 rfl) ?_
  refine ch_grd rfl (guard_f rfl rfl rfl) (fun hc => w_move rfl (ev_tmp rfl)) ?_
  refine ch_grd rfl (guard_f rfl rfl rfl) (fun hc => w_addi rfl (ev_whn rfl hc) ev_ci (by have h9 := hfa (by simpa using hc); omega)) ?_
  refine ch_grd rfl (guard_f rfl rfl rfl) (fun hc => w_idx rfl Try.underlying55 Try.sizeOf3 (ev_whn rfl hc) (ev_whn rfl hc) (by have h9 := hfa (by simpa using hc); omega) (by have h9 := hfa (by simpa using hc); rw [List.getElem?_map, hzz (by omega)]; rfl)) ?_
  refine ch_grd rfl (guard_f rfl rfl rfl) (fun hc => w_loadE1 rfl (ev_whn rfl hc) Try.isAgg3 rfl) ?_
  refine ch_grd rfl (guard_f rfl rfl rfl) (fun hc => w_neq rfl (ev_whn rfl hc) (ev_whn rfl hc)) ?_
  refine ch_plain rfl rfl (w_or rfl (ev_tmp rfl) (evif_w rfl)) ?_
  refine ch_nil ?_
  refine awp_cond (ev_tmp rfl) ?_ ?_
  · intro h32
    have he : joinAtS p i = (noPlaces, false) := by unfold joinAtS; rw [if_pos]; cases h1 : (!goodPlacesS p || !within i 0 ((p.Cuts.length : Int) - 1)) with | true => rfl | false => (have h9 := hfa h1; rw [h9.2.2.1, h9.2.2.2]; simp only [List.length_map] at h32; rw [h1] at h32; exact h32)
    rw [he]
    refine awp_seq ?_
    refine awp_region ?_
    refine sq_plain rfl rfl rfl (w_build (places := #[(0, 1), (1, 1), (2, 1)]) rfl Try.underlying57 Try.zeroValue57 (fun w => by kernel_rfl) rfl bp_nil rfl) ?_
    refine sq_storeB0 0 rfl rfl rfl (ev_tmp rfl) (ev_tmp rfl) (as_agg _) rfl Try.sizeOf57 rfl ?_
    refine sq_plain rfl rfl rfl (w_assign rfl ev_cb) ?_
    refine sq_nil ?_
    refine awp_ret ?_
    refine retG_nil 9 1 ?_
    refine retG_nil 3 1 ?_
    exact retG [1, 0] ((Value.slice none 0 0), (Value.slice none 0 0)) (trivial) rfl (by rfl) (resN rfl (by decide) (rv_cons (rv_cell (ys := _) 2 rfl rfl Try.isAgg57 Try.sizeOf57 rfl) (rv_cons (rv_tmp' rfl (by rfl)) rv_nil)))
  · intro h32
    have hr : (!goodPlacesS p || !within i 0 ((p.Cuts.length : Int) - 1)) = false := by simp only [List.length_map] at h32; cases h1 : (!goodPlacesS p || !within i 0 ((p.Cuts.length : Int) - 1)) with | true => (rw [h1] at h32; cases h32) | false => rfl
    have h9 := hfa hr
    have h8 := good_facts (inS_facts hr).1
    have he : joinAtS p i = nextS (delP p i.toNat) := by unfold joinAtS; rw [if_neg]; rw [h9.2.2.1, h9.2.2.2, hr]; simp only [List.length_map] at h32; rw [hr] at h32; rw [h32]; decide
    rw [he]
    obtain ⟨k, hk⟩ : ∃ k : Nat, i = (k : Int) := ⟨i.toNat, by omega⟩
    subst hk
    refine awp_skip ?_
    refine awp_seq ?_
    refine awp_region ?_
    refine sq_plain rfl rfl rfl (w_fldBn 0 rfl Try.underlying57 rfl Try.sizeOf3 (ev_tmp rfl) rfl) ?_
    refine sq_plain rfl rfl rfl (w_loadB1 1 rfl (ev_tmp rfl) rfl Try.isAgg3 rfl) ?_
    refine sq_plain rfl rfl rfl (w_build (places := #[(0, 1), (1, 1), (2, 1)]) rfl Try.underlying57 Try.zeroValue57 (fun w => by kernel_rfl) rfl (bp_cons (ev_tmp rfl) (as_ik _ _) bp_nil) rfl) ?_
    refine sq_alloc rfl rfl rfl rfl Try.zeroValue57 rfl ?_
    intro b6
    refine sq_storeB0 0 rfl rfl rfl (ev_tmp rfl) (ev_tmp rfl) (as_agg _) rfl Try.sizeOf57 rfl ?_
    refine sq_nil ?_
    refine awp_seq ?_
    refine awp_region_mix _ [(1, false), (2, false), (3, false), (4, false), (6, false), (7, false), (8, false), (9, false), (10, false), (0, true), (5, true), (11, true)] (by kernel_rfl) (by kernel_rfl) rfl invx_self ?_
    refine bc_plain rfl rfl rfl (fun ext => w_fldBn 1 rfl Try.underlying57 rfl Try.sizeOf52 (ev_tmp rfl) rfl) ?_
    refine bc_plain rfl rfl rfl (fun ext => w_loadB1 2 rfl (ev_tmp rfl) rfl Try.isAgg52 rfl) ?_
    refine bc_plain rfl rfl rfl (fun ext => w_move rfl (ev_tmp rfl)) ?_
    refine bc_plain rfl rfl rfl (fun ext => w_lsl_him rfl Try.underlying52 Try.sizeOf9 (ev_tmp rfl) (ev_tmp rfl) (by first | omega | ((try simp only [List.length_map, List.length_take, List.length_cons, List.length_nil, chunks_len, szR] at *); omega) | (have hc2 := hc; simp only [Bool.and_eq_true, Bool.or_eq_true, Bool.or_eq_false_iff, Bool.and_eq_false_iff, Bool.not_eq_true', Bool.not_eq_false', decide_eq_true_eq, decide_eq_false_iff_not, beq_iff_eq, bne_iff_ne, List.length_map, List.length_take] at hc2; omega)) (by first | omega | ((try simp only [List.length_map, List.length_take, List.length_cons, List.length_nil, chunks_len, szR] at *); omega) | (have hc2 := hc; simp only [Bool.and_eq_true, Bool.or_eq_true, Bool.or_eq_false_iff, Bool.and_eq_false_iff, Bool.not_eq_true', Bool.not_eq_false', decide_eq_true_eq, decide_eq_false_iff_not, beq_iff_eq, bne_iff_ne, List.length_map, List.length_take] at hc2; omega))) ?_
    refine bc_plain rfl rfl rfl (fun ext => w_fldBn 1 rfl Try.underlying57 rfl Try.sizeOf52 (ev_tmp rfl) rfl) ?_
    refine bc_plain rfl rfl rfl (fun ext => w_loadB1 2 rfl (ev_tmp rfl) rfl Try.isAgg52 rfl) ?_
    refine bc_plain rfl rfl rfl (fun ext => w_move rfl (ev_tmp rfl)) ?_
    refine bc_plain rfl rfl rfl (fun ext => w_addi rfl (ev_tmp rfl) ev_ci (by first | omega | ((try simp only [List.length_map, List.length_take, List.length_cons, List.length_nil, chunks_len, szR] at *); omega) | (have hc2 := hc; simp only [Bool.and_eq_true, Bool.or_eq_true, Bool.or_eq_false_iff, Bool.and_eq_false_iff, Bool.not_eq_true', Bool.not_eq_false', decide_eq_true_eq, decide_eq_false_iff_not, beq_iff_eq, bne_iff_ne, List.length_map, List.length_take] at hc2; omega))) ?_
    refine bc_plain rfl rfl rfl (fun ext => w_lsl_lom rfl Try.underlying52 Try.sizeOf9 (ev_tmp rfl) (ev_tmp rfl) (by first | omega | ((try simp only [List.length_map, List.length_take, List.length_cons, List.length_nil, chunks_len, szR] at *); omega) | (have hc2 := hc; simp only [Bool.and_eq_true, Bool.or_eq_true, Bool.or_eq_false_iff, Bool.and_eq_false_iff, Bool.not_eq_true', Bool.not_eq_false', decide_eq_true_eq, decide_eq_false_iff_not, beq_iff_eq, bne_iff_ne, List.length_map, List.length_take] at hc2; omega)) (by first | omega | ((try simp only [List.length_map, List.length_take, List.length_cons, List.length_nil, chunks_len, szR] at *); omega) | (have hc2 := hc; simp only [Bool.and_eq_true, Bool.or_eq_true, Bool.or_eq_false_iff, Bool.and_eq_false_iff, Bool.not_eq_true', Bool.not_eq_false', decide_eq_true_eq, decide_eq_false_iff_not, beq_iff_eq, bne_iff_ne, List.length_map, List.length_take] at hc2; omega))) ?_
    refine bc_eff rfl rfl rfl (opE_empty rfl Try.underlying52 Try.sizeOf9) (fun a _ => (by first | exact invx_mk rfl | exact invx_mk (List.append_assoc _ _ _) | exact invx_all)) ?_
    intro v37 _
    refine bc_eff rfl rfl rfl (opE_append (by' := 16) 3 rfl Try.underlying52 Try.type9 rfl rfl rfl rfl rfl rfl (ev_tmp rfl) (ev_tmp rfl) rfl (by simp only [chunks_len, List.length_append, List.length_nil, List.length_map, List.length_take, List.length_cons, List.length_drop]; omega)) (fun a _ => (by first | exact invx_mk rfl | exact invx_mk (List.append_assoc _ _ _) | exact invx_all)) ?_
    intro v42_3 _
    refine bc_eff rfl rfl rfl (opE_append (by' := 16) 3 rfl Try.underlying52 Try.type9 rfl rfl rfl rfl rfl rfl (ev_tmp rfl) (ev_tmp rfl) rfl (by simp only [chunks_len, List.length_append, List.length_nil, List.length_map, List.length_take, List.length_cons, List.length_drop]; omega)) (fun a _ => (by first | exact invx_mk rfl | exact invx_mk (List.append_assoc _ _ _) | exact invx_all)) ?_
    intro v48_4 _
    refine bc_nil ?_
    refine sq_plain rfl rfl rfl (w_fldBn 1 rfl Try.underlying57 rfl Try.sizeOf52 (ev_tmp rfl) rfl) ?_
    refine sq_fact 3 rfl fun one_v48_4 => ?_
    refine sq_storeB1 0 rfl rfl rfl (ev_tmp rfl) (ev_tmp rfl) (as_is one_v48_4) rfl Try.sizeOf52 rfl ?_
    refine sq_nil ?_
    refine awp_seq ?_
    refine awp_region_mix _ [(0, false), (1, false), (2, false), (3, false), (5, false), (6, false), (7, false), (8, false), (9, false), (4, true), (10, true)] (by kernel_rfl) (by kernel_rfl) rfl invx_self ?_
    refine bc_plain rfl rfl rfl (fun ext => w_fldBn 2 rfl Try.underlying57 rfl Try.sizeOf55 (ev_tmp rfl) rfl) ?_
    refine bc_plain rfl rfl rfl (fun ext => w_loadB1 2 rfl (ev_tmp rfl) rfl Try.isAgg55 rfl) ?_
    refine bc_plain rfl rfl rfl (fun ext => w_move rfl (ev_tmp rfl)) ?_
    refine bc_plain rfl rfl rfl (fun ext => w_lsl_him rfl Try.underlying55 Try.sizeOf3 (ev_tmp rfl) (ev_tmp rfl) (by first | omega | ((try simp only [List.length_map, List.length_take, List.length_cons, List.length_nil, chunks_len, szR] at *); omega) | (have hc2 := hc; simp only [Bool.and_eq_true, Bool.or_eq_true, Bool.or_eq_false_iff, Bool.and_eq_false_iff, Bool.not_eq_true', Bool.not_eq_false', decide_eq_true_eq, decide_eq_false_iff_not, beq_iff_eq, bne_iff_ne, List.length_map, List.length_take] at hc2; omega)) (by first | omega | ((try simp only [List.length_map, List.length_take, List.length_cons, List.length_nil, chunks_len, szR] at *); omega) | (have hc2 := hc; simp only [Bool.and_eq_true, Bool.or_eq_true, Bool.or_eq_false_iff, Bool.and_eq_false_iff, Bool.not_eq_true', Bool.not_eq_false', decide_eq_true_eq, decide_eq_false_iff_not, beq_iff_eq, bne_iff_ne, List.length_map, List.length_take] at hc2; omega))) ?_
    refine bc_plain rfl rfl rfl (fun ext => w_fldBn 2 rfl Try.underlying57 rfl Try.sizeOf55 (ev_tmp rfl) rfl) ?_
    refine bc_plain rfl rfl rfl (fun ext => w_loadB1 2 rfl (ev_tmp rfl) rfl Try.isAgg55 rfl) ?_
    refine bc_plain rfl rfl rfl (fun ext => w_move rfl (ev_tmp rfl)) ?_
    refine bc_plain rfl rfl rfl (fun ext => w_addi rfl (ev_tmp rfl) ev_ci (by first | omega | ((try simp only [List.length_map, List.length_take, List.length_cons, List.length_nil, chunks_len, szR] at *); omega) | (have hc2 := hc; simp only [Bool.and_eq_true, Bool.or_eq_true, Bool.or_eq_false_iff, Bool.and_eq_false_iff, Bool.not_eq_true', Bool.not_eq_false', decide_eq_true_eq, decide_eq_false_iff_not, beq_iff_eq, bne_iff_ne, List.length_map, List.length_take] at hc2; omega))) ?_
    refine bc_plain rfl rfl rfl (fun ext => w_lsl_lom rfl Try.underlying55 Try.sizeOf3 (ev_tmp rfl) (ev_tmp rfl) (by first | omega | ((try simp only [List.length_map, List.length_take, List.length_cons, List.length_nil, chunks_len, szR] at *); omega) | (have hc2 := hc; simp only [Bool.and_eq_true, Bool.or_eq_true, Bool.or_eq_false_iff, Bool.and_eq_false_iff, Bool.not_eq_true', Bool.not_eq_false', decide_eq_true_eq, decide_eq_false_iff_not, beq_iff_eq, bne_iff_ne, List.length_map, List.length_take] at hc2; omega)) (by first | omega | ((try simp only [List.length_map, List.length_take, List.length_cons, List.length_nil, chunks_len, szR] at *); omega) | (have hc2 := hc; simp only [Bool.and_eq_true, Bool.or_eq_true, Bool.or_eq_false_iff, Bool.and_eq_false_iff, Bool.not_eq_true', Bool.not_eq_false', decide_eq_true_eq, decide_eq_false_iff_not, beq_iff_eq, bne_iff_ne, List.length_map, List.length_take] at hc2; omega))) ?_
    refine bc_eff rfl rfl rfl (opE_call [] rfl Try.call102 rfl (l1Own_own (p.Groups.take k) (by simp only [List.length_take]; omega)) (evl_cons (ev_tmp rfl) evl_nil) rfl) (fun a _ => (by first | exact invx_mk rfl | exact invx_mk (List.append_assoc _ _ _) | exact invx_all)) ?_
    intro x54 ok54
    refine bc_eff rfl rfl rfl (opE_append (by' := 8) 4 rfl Try.underlying55 Try.type3 rfl rfl rfl rfl rfl rfl (ev_tmp rfl) (ev_tmp rfl) rfl (by simp only [chunks_len, List.length_append, List.length_nil, List.length_map, List.length_take, List.length_cons, List.length_drop]; omega)) (fun a _ => (by first | exact invx_mk rfl | exact invx_mk (List.append_assoc _ _ _) | exact invx_all)) ?_
    intro v60_5 _
    refine bc_nil ?_
    refine sq_plain rfl rfl rfl (w_fldBn 2 rfl Try.underlying57 rfl Try.sizeOf55 (ev_tmp rfl) rfl) ?_
    refine sq_fact 4 rfl fun one_v60_5 => ?_
    refine sq_storeB1 0 rfl rfl rfl (ev_tmp rfl) (ev_tmp rfl) (as_is one_v60_5) rfl Try.sizeOf55 rfl ?_
    refine sq_nil ?_
    refine awp_seq ?_
    refine awp_region ?_
    refine sq_plain rfl rfl rfl (w_loadA 0 rfl (ev_tmp rfl) rfl Try.isAgg57 Try.sizeOf57 rfl) ?_
    refine sq_own (by first | (simp only [TPlaces.ow, TPlaces.ocs, pick, List.eraseIdx_cons_zero, List.eraseIdx_cons_succ, List.set_cons_zero, List.set_cons_succ, List.cons_append, List.nil_append, List.getElem?_cons_zero, List.getElem?_cons_succ, List.append_nil]; exact rfl) | exact rfl) ?_
    refine sq_callG [3, 3] rfl rfl rfl rfl Try.call103 rfl (gspec_sel (own2 (delC_eq p.Cuts k) (delC_eq p.Groups k)) (nextS_own (delP p k) (_, _) (by have := delP_size p k; omega) ⟨h8.1, h8.2.1⟩)) (evl_cons (ev_tmp rfl) evl_nil) rfl ?_
    intro x63 ok63
    refine sq_plain rfl rfl rfl (w_extract rfl (ev_tmp rfl) rfl) ?_
    refine sq_plain rfl rfl rfl (w_extract rfl (ev_tmp rfl) rfl) ?_
    refine sq_storeB0 3 rfl rfl rfl (ev_tmp rfl) (ev_tmp rfl) (as_agg _) rfl Try.sizeOf57 rfl ?_
    refine sq_plain rfl rfl rfl (w_assign rfl (ev_tmp rfl)) ?_
    refine sq_nil ?_
    refine awp_ret ?_
    exact retG [0, 0] (x63.1, x63.2) (trivial) rfl (by rfl) (resN rfl (by decide) (rv_cons (rv_cell (ys := _) 3 rfl rfl Try.isAgg57 Try.sizeOf57 rfl) (rv_cons (rv_tmp' rfl (by rfl)) rv_nil)))
theorem joinAtS_spec (p : TPlaces) (i : Int) (hs : p.size ≤ 2097152) : FSpec Try.prog 32 [AV.agg p.cs, AV.int i] (AV.tup [AV.agg (joinAtS p i).1.cs, AV.bool (joinAtS p i).2]) :=
  fspec_of_gspec (joinAtS_own p i hs) fun x _ => lt_tup (lc_cons (lt_agg (TPlaces.lc _ x)) (lc_cons lt_refl lc_nil))
theorem giveTo_own (p : TPlaces) (i g : Int) (hs : p.size ≤ 2097152) : GSpec Try.prog 28 [AV.agg p.cs, AV.int i, AV.int g] [] (fun _ : Value × Value => True) (fun x => TPlaces.ow (giveTo p i g).1 x) (fun x => AV.tup [AV.agg (TPlaces.ocs (giveTo p i g).1 x), AV.bool (giveTo p i g).2]) := by
  obtain ⟨y, hy⟩ := get_any p.Groups i.toNat
  have hlen : p.Groups.length ≤ 2097152 := by unfold TPlaces.size at hs; omega
  have hgy : isRange p i = true → gAt p i = y := fun h => by have h1 := isRange_facts h; unfold gAt; rw [List.getD_eq_getElem?_getD, hy (by omega)]; rfl
  refine gspec_of_awp Try.func28 rfl Try.ntmps28 rfl ?_
  refine awp_seq ?_
  refine awp_region ?_
  refine sq_box rfl rfl rfl rfl (ev_tmp rfl) ?_
  intro b3
  refine sq_alloc rfl rfl rfl rfl Try.zeroValue57 rfl ?_
  intro b6
  refine sq_plain rfl rfl rfl (w_assign rfl ev_cb) ?_
  refine sq_nil ?_
  refine awp_seq ?_
  refine awp_seq ?_
  refine awp_region ?_
  refine sq_plain rfl rfl rfl (w_loadA 1 rfl (ev_tmp rfl) rfl Try.isAgg57 Try.sizeOf57 rfl) ?_
  refine sq_plain rfl rfl rfl (w_move rfl (ev_tmp rfl)) ?_
  refine sq_plain rfl rfl rfl (w_call rfl Try.call105 rfl (isRange_spec _ _ (by first | assumption | omega)) (evl_cons (ev_tmp rfl) (evl_cons (ev_tmp rfl) evl_nil))) ?_
  refine sq_plain rfl rfl rfl (w_not rfl (ev_tmp rfl)) ?_
  refine sq_plain rfl rfl rfl (w_move rfl (ev_tmp rfl)) ?_
  refine sq_grd rfl rfl (guard_f rfl rfl rfl) (fun hc => w_move rfl (ev_tmp rfl)) ?_
  refine sq_grd rfl rfl (guard_f rfl rfl rfl) (fun hc => w_call rfl Try.call106 rfl (isGroup_spec _) (evl_cons (ev_whn rfl hc) evl_nil)) ?_
  refine sq_grd rfl rfl (guard_f rfl rfl rfl) (fun hc => w_not rfl (ev_whn rfl hc)) ?_
  refine sq_plain rfl rfl rfl (w_or rfl (ev_tmp rfl) (evif_w rfl)) ?_
  refine sq_plain rfl rfl rfl (w_move rfl (ev_tmp rfl)) ?_
  refine sq_grd rfl rfl (guard_f rfl rfl rfl) (fun hc => w_fldBn 2 rfl Try.underlying57 rfl Try.sizeOf55 (ev_tmp rfl) rfl) ?_
  refine sq_grd rfl rfl (guard_f rfl rfl rfl) (fun hc => w_loadB1 1 rfl (ev_whn rfl hc) rfl Try.isAgg55 rfl) ?_
  refine sq_grd rfl rfl (guard_f rfl rfl rfl) (fun hc => w_move rfl (ev_tmp rfl)) ?_
  refine sq_grd rfl rfl (guard_f rfl rfl rfl) (fun hc => w_idx rfl Try.underlying55 Try.sizeOf3 (ev_whn rfl hc) (ev_whn rfl hc) (by have h9 := hc; have := isRange_facts (p := p) (i := i) (by revert h9; cases isRange p i <;> simp); omega) (by have h9 := hc; have := isRange_facts (p := p) (i := i) (by revert h9; cases isRange p i <;> simp); rw [List.getElem?_map, hy (by omega)]; rfl)) ?_
  refine sq_grd rfl rfl (guard_f rfl rfl rfl) (fun hc => w_loadE1 rfl (ev_whn rfl hc) Try.isAgg3 rfl) ?_
  refine sq_grd rfl rfl (guard_f rfl rfl rfl) (fun hc => w_move rfl (ev_tmp rfl)) ?_
  refine sq_grd rfl rfl (guard_f rfl rfl rfl) (fun hc => w_eql rfl (ev_whn rfl hc) (ev_whn rfl hc)) ?_
  refine sq_plain rfl rfl rfl (w_or rfl (ev_tmp rfl) (evif_w rfl)) ?_
  refine sq_nil ?_
  refine awp_cond (ev_tmp rfl) ?_ ?_
  · intro h26
    have he : giveTo p i g = (noPlaces, false) := by unfold giveTo; rw [if_pos]; cases h1 : isRange p i <;> cases h2 : isGroup g <;> simp_all
    rw [he]
    refine awp_seq ?_
    refine awp_region ?_
    refine sq_plain rfl rfl rfl (w_build (places := #[(0, 1), (1, 1), (2, 1)]) rfl Try.underlying57 Try.zeroValue57 (fun w => by kernel_rfl) rfl bp_nil rfl) ?_
    refine sq_storeB0 0 rfl rfl rfl (ev_tmp rfl) (ev_tmp rfl) (as_agg _) rfl Try.sizeOf57 rfl ?_
    refine sq_plain rfl rfl rfl (w_assign rfl ev_cb) ?_
    refine sq_nil ?_
    refine awp_ret ?_
    refine retG_nil 9 1 ?_
    refine retG_nil 3 1 ?_
    exact retG [1, 0] ((Value.slice none 0 0), (Value.slice none 0 0)) (trivial) rfl (by rfl) (resN rfl (by decide) (rv_cons (rv_cell (ys := _) 2 rfl rfl Try.isAgg57 Try.sizeOf57 rfl) (rv_cons (rv_tmp' rfl (by rfl)) rv_nil)))
  · intro h26
    have hr : isRange p i = true ∧ isGroup g = true ∧ (y == g) = false := by cases h1 : isRange p i <;> cases h2 : isGroup g <;> simp_all
    have he : giveTo p i g = nextP (setP p i.toNat g) := by unfold giveTo; rw [if_neg]; rw [hr.1, hr.2.1, hgy hr.1, hr.2.2]; decide
    rw [he]
    have hf1 := isRange_facts hr.1
    obtain ⟨v0, v1, hc4, hgl, _, _⟩ := good_facts hf1.1
    obtain ⟨k, hk⟩ : ∃ k : Nat, i = (k : Int) := ⟨i.toNat, by omega⟩
    subst hk
    refine awp_skip ?_
    refine awp_seq ?_
    refine awp_region ?_
    refine sq_plain rfl rfl rfl (w_loadA 1 rfl (ev_tmp rfl) rfl Try.isAgg57 Try.sizeOf57 rfl) ?_
    refine sq_callG [] rfl rfl rfl rfl Try.call95 rfl (copyPlaces_own _ (by first | assumption | omega)) (evl_cons (ev_tmp rfl) evl_nil) rfl ?_
    intro x29 ok29
    refine sq_alloc rfl rfl rfl rfl Try.zeroValue57 rfl ?_
    intro b8
    refine sq_storeB0 0 rfl rfl rfl (ev_tmp rfl) (ev_tmp rfl) (as_agg _) rfl Try.sizeOf57 rfl ?_
    refine sq_nil ?_
    refine awp_seq ?_
    refine awp_region ?_
    refine sq_plain rfl rfl rfl (w_fldBn 2 rfl Try.underlying57 rfl Try.sizeOf55 (ev_tmp rfl) rfl) ?_
    refine sq_plain rfl rfl rfl (w_loadB1 0 rfl (ev_tmp rfl) rfl Try.isAgg55 rfl) ?_
    refine sq_plain rfl rfl rfl (w_move rfl (ev_tmp rfl)) ?_
    refine sq_plain rfl rfl rfl (w_move rfl (ev_tmp rfl)) ?_
    refine sq_plain rfl rfl rfl (w_aidx 2 rfl Try.underlying55 Try.sizeOf3 (ev_tmp rfl) rfl (ev_tmp rfl) (by omega) (by simp only [List.length_map]; omega)) ?_
    refine sq_storeA 2 rfl rfl rfl (ev_tmp rfl) (ev_tmp rfl) (as_ik _ _) rfl Try.sizeOf3 rfl (by simp only [List.length_map, Int.toNat_natCast]; omega) ?_
    refine sq_nil ?_
    refine awp_seq ?_
    refine awp_region ?_
    refine sq_plain rfl rfl rfl (w_loadA 0 rfl (ev_tmp rfl) rfl Try.isAgg57 Try.sizeOf57 rfl) ?_
    refine sq_own (by first | (simp only [TPlaces.ow, TPlaces.ocs, pick, List.eraseIdx_cons_zero, List.eraseIdx_cons_succ, List.set_cons_zero, List.set_cons_succ, List.cons_append, List.nil_append, List.getElem?_cons_zero, List.getElem?_cons_succ, List.append_nil]; exact rfl) | exact rfl) ?_
    refine sq_callG [1, 1] rfl rfl rfl rfl Try.call99 rfl (gspec_sel (own2 rfl (List.map_set).symm) (next_own (setP p k g) (x29.1, x29.2) (by rw [setP_size]; omega) ⟨v0, v1⟩)) (evl_cons (ev_tmp rfl) evl_nil) rfl ?_
    intro x36 ok36
    refine sq_plain rfl rfl rfl (w_extract rfl (ev_tmp rfl) rfl) ?_
    refine sq_plain rfl rfl rfl (w_extract rfl (ev_tmp rfl) rfl) ?_
    refine sq_storeB0 3 rfl rfl rfl (ev_tmp rfl) (ev_tmp rfl) (as_agg _) rfl Try.sizeOf57 rfl ?_
    refine sq_plain rfl rfl rfl (w_assign rfl (ev_tmp rfl)) ?_
    refine sq_nil ?_
    refine awp_ret ?_
    exact retG [0, 0] (x36.1, x36.2) (trivial) rfl (by rfl) (resN rfl (by decide) (rv_cons (rv_cell (ys := _) 3 rfl rfl Try.isAgg57 Try.sizeOf57 rfl) (rv_cons (rv_tmp' rfl (by rfl)) rv_nil)))
theorem giveTo_spec (p : TPlaces) (i g : Int) (hs : p.size ≤ 2097152) : FSpec Try.prog 28 [AV.agg p.cs, AV.int i, AV.int g] (AV.tup [AV.agg (giveTo p i g).1.cs, AV.bool (giveTo p i g).2]) :=
  fspec_of_gspec (giveTo_own p i g hs) fun x _ => lt_tup (lc_cons (lt_agg (TPlaces.lc _ x)) (lc_cons lt_refl lc_nil))
theorem giveToS_own (p : TPlaces) (i g : Int) (hs : p.size ≤ 2097152) : GSpec Try.prog 29 [AV.agg p.cs, AV.int i, AV.int g] [] (fun _ : Value × Value => True) (fun x => TPlaces.ow (giveToS p i g).1 x) (fun x => AV.tup [AV.agg (TPlaces.ocs (giveToS p i g).1 x), AV.bool (giveToS p i g).2]) := by
  obtain ⟨y, hy⟩ := get_any p.Groups i.toNat
  have hlen : p.Groups.length ≤ 2097152 := by unfold TPlaces.size at hs; omega
  have hfa : (!goodPlacesS p || !within i 0 ((p.Groups.length : Int) - 1)) = false → 0 ≤ i ∧ i < p.Groups.length ∧ gAt p i = y := fun h => by
    have h1 := inS_facts h
    refine ⟨h1.2.1, by omega, ?_⟩
    unfold gAt; rw [List.getD_eq_getElem?_getD, hy (by omega)]; rfl
  refine gspec_of_awp Try.func29 rfl Try.ntmps29 rfl ?_
  refine awp_seq ?_
  refine awp_region ?_
  refine sq_box rfl rfl rfl rfl (ev_tmp rfl) ?_
  intro b3
  refine sq_alloc rfl rfl rfl rfl Try.zeroValue57 rfl ?_
  intro b6
  refine sq_plain rfl rfl rfl (w_assign rfl ev_cb) ?_
  refine sq_nil ?_
  refine awp_seq ?_
  refine awp_seq ?_
  refine awp_region ?_
  refine sq_plain rfl rfl rfl (w_loadA 1 rfl (ev_tmp rfl) rfl Try.isAgg57 Try.sizeOf57 rfl) ?_
  refine sq_plain rfl rfl rfl (w_call rfl Try.call35 rfl (goodPlacesS_spec _ (by first | assumption | omega)) (evl_cons (ev_tmp rfl) evl_nil)) ?_
  refine sq_plain rfl rfl rfl (w_not rfl (ev_tmp rfl)) ?_
  refine sq_plain rfl rfl rfl (w_move rfl (ev_tmp rfl)) ?_
  refine sq_grd rfl rfl (guard_f rfl rfl rfl) (fun hc => w_move rfl (ev_tmp rfl)) ?_
  refine sq_grd rfl rfl (guard_f rfl rfl rfl) (fun hc => w_fldBn 2 rfl Try.underlying57 rfl Try.sizeOf55 (ev_tmp rfl) rfl) ?_
  refine sq_grd rfl rfl (guard_f rfl rfl rfl) (fun hc => w_loadB1 1 rfl (ev_whn rfl hc) rfl Try.isAgg55 rfl) ?_
  refine sq_grd rfl rfl (guard_f rfl rfl rfl) (fun hc => w_llen rfl Try.underlying55 (ev_whn rfl hc)) ?_
  refine sq_grd rfl rfl (guard_f rfl rfl rfl) (fun hc => w_subi rfl (ev_whn rfl hc) ev_ci (by simp only [List.length_map]; omega)) ?_
  refine sq_grd rfl rfl (guard_f rfl rfl rfl) (fun hc => w_call rfl Try.call107 rfl (l1In_spec _ _ _) (evl_cons (ev_whn rfl hc) (evl_cons ev_ci (evl_cons (ev_whn rfl hc) evl_nil)))) ?_
  refine sq_grd rfl rfl (guard_f rfl rfl rfl) (fun hc => w_not rfl (ev_whn rfl hc)) ?_
  refine sq_plain rfl rfl rfl (w_or rfl (ev_tmp rfl) (evif_w rfl)) ?_
  refine sq_plain rfl rfl rfl (w_move rfl (ev_tmp rfl)) ?_
  refine sq_grd rfl rfl (guard_f rfl rfl rfl) (fun hc => w_move rfl (ev_tmp rfl)) ?_
  refine sq_grd rfl rfl (guard_f rfl rfl rfl) (fun hc => w_call rfl Try.call107 rfl (l1In_spec _ _ _) (evl_cons (ev_whn rfl hc) (evl_cons ev_ci (evl_cons ev_ci evl_nil)))) ?_
  refine sq_grd rfl rfl (guard_f rfl rfl rfl) (fun hc => w_not rfl (ev_whn rfl hc)) ?_
  refine sq_plain rfl rfl rfl (w_or rfl (ev_tmp rfl) (evif_w rfl)) ?_
  refine sq_plain rfl rfl rfl (w_move rfl (ev_tmp rfl)) ?_
  refine sq_grd rfl rfl (guard_f rfl rfl rfl) (fun hc => w_fldBn 2 rfl Try.underlying57 rfl Try.sizeOf55 (ev_tmp rfl) rfl) ?_
  refine sq_grd rfl rfl (guard_f rfl rfl rfl) (fun hc => w_loadB1 1 rfl (ev_whn rfl hc) rfl Try.isAgg55 rfl) ?_
  refine sq_grd rfl rfl (guard_f rfl rfl rfl) (fun hc => w_move rfl (ev_tmp rfl)) ?_
  refine sq_grd rfl rfl (guard_f rfl rfl rfl) (fun hc => w_idx rfl Try.underlying55 Try.sizeOf3 (ev_whn rfl hc) (ev_whn rfl hc) (by have h9 := hfa (by simp only [Bool.not_eq_true', List.length_map] at hc; revert hc; cases (!goodPlacesS p || !within i 0 ((p.Groups.length : Int) - 1)) <;> simp); omega) (by have h9 := hfa (by simp only [Bool.not_eq_true', List.length_map] at hc; revert hc; cases (!goodPlacesS p || !within i 0 ((p.Groups.length : Int) - 1)) <;> simp); rw [List.getElem?_map, hy (by omega)]; rfl)) ?_
  refine sq_grd rfl rfl (guard_f rfl rfl rfl) (fun hc => w_loadE1 rfl (ev_whn rfl hc) Try.isAgg3 rfl) ?_
  refine sq_grd rfl rfl (guard_f rfl rfl rfl) (fun hc => w_move rfl (ev_tmp rfl)) ?_
  refine sq_grd rfl rfl (guard_f rfl rfl rfl) (fun hc => w_eql rfl (ev_whn rfl hc) (ev_whn rfl hc)) ?_
  refine sq_plain rfl rfl rfl (w_or rfl (ev_tmp rfl) (evif_w rfl)) ?_
  refine sq_nil ?_
  refine awp_cond (ev_tmp rfl) ?_ ?_
  · intro h34
    have he : giveToS p i g = (noPlaces, false) := by unfold giveToS; rw [if_pos]; simp only [List.length_map] at h34; cases h1 : (!goodPlacesS p || !within i 0 ((p.Groups.length : Int) - 1)) with | true => rfl | false => (have h9 := hfa h1; rw [h9.2.2]; rw [h1] at h34; exact h34)
    rw [he]
    refine awp_seq ?_
    refine awp_region ?_
    refine sq_plain rfl rfl rfl (w_build (places := #[(0, 1), (1, 1), (2, 1)]) rfl Try.underlying57 Try.zeroValue57 (fun w => by kernel_rfl) rfl bp_nil rfl) ?_
    refine sq_storeB0 0 rfl rfl rfl (ev_tmp rfl) (ev_tmp rfl) (as_agg _) rfl Try.sizeOf57 rfl ?_
    refine sq_plain rfl rfl rfl (w_assign rfl ev_cb) ?_
    refine sq_nil ?_
    refine awp_ret ?_
    refine retG_nil 9 1 ?_
    refine retG_nil 3 1 ?_
    exact retG [1, 0] ((Value.slice none 0 0), (Value.slice none 0 0)) (trivial) rfl (by rfl) (resN rfl (by decide) (rv_cons (rv_cell (ys := _) 2 rfl rfl Try.isAgg57 Try.sizeOf57 rfl) (rv_cons (rv_tmp' rfl (by rfl)) rv_nil)))
  · intro h34
    have hr : (!goodPlacesS p || !within i 0 ((p.Groups.length : Int) - 1)) = false := by simp only [List.length_map] at h34; cases h1 : (!goodPlacesS p || !within i 0 ((p.Groups.length : Int) - 1)) with | true => (rw [h1] at h34; cases h34) | false => rfl
    have h9 := hfa hr
    have h8 := good_facts (inS_facts hr).1
    have he : giveToS p i g = nextS (setP p i.toNat g) := by unfold giveToS; rw [if_neg]; rw [h9.2.2, hr]; simp only [List.length_map] at h34; rw [hr] at h34; rw [h34]; decide
    rw [he]
    obtain ⟨k, hk⟩ : ∃ k : Nat, i = (k : Int) := ⟨i.toNat, by omega⟩
    subst hk
    refine awp_skip ?_
    refine awp_seq ?_
    refine awp_region ?_
    refine sq_plain rfl rfl rfl (w_loadA 1 rfl (ev_tmp rfl) rfl Try.isAgg57 Try.sizeOf57 rfl) ?_
    refine sq_callG [] rfl rfl rfl rfl Try.call108 rfl (l20Own_own _ (by first | assumption | omega)) (evl_cons (ev_tmp rfl) evl_nil) rfl ?_
    intro x37 ok37
    refine sq_alloc rfl rfl rfl rfl Try.zeroValue57 rfl ?_
    intro b8
    refine sq_storeB0 0 rfl rfl rfl (ev_tmp rfl) (ev_tmp rfl) (as_agg _) rfl Try.sizeOf57 rfl ?_
    refine sq_nil ?_
    refine awp_seq ?_
    refine awp_region ?_
    refine sq_plain rfl rfl rfl (w_fldBn 2 rfl Try.underlying57 rfl Try.sizeOf55 (ev_tmp rfl) rfl) ?_
    refine sq_plain rfl rfl rfl (w_loadB1 0 rfl (ev_tmp rfl) rfl Try.isAgg55 rfl) ?_
    refine sq_plain rfl rfl rfl (w_move rfl (ev_tmp rfl)) ?_
    refine sq_plain rfl rfl rfl (w_move rfl (ev_tmp rfl)) ?_
    refine sq_plain rfl rfl rfl (w_aidx 2 rfl Try.underlying55 Try.sizeOf3 (ev_tmp rfl) rfl (ev_tmp rfl) (by omega) (by simp only [List.length_map]; omega)) ?_
    refine sq_storeA 2 rfl rfl rfl (ev_tmp rfl) (ev_tmp rfl) (as_ik _ _) rfl Try.sizeOf3 rfl (by simp only [List.length_map, Int.toNat_natCast]; omega) ?_
    refine sq_nil ?_
    refine awp_seq ?_
    refine awp_region ?_
    refine sq_plain rfl rfl rfl (w_loadA 0 rfl (ev_tmp rfl) rfl Try.isAgg57 Try.sizeOf57 rfl) ?_
    refine sq_own (by first | (simp only [TPlaces.ow, TPlaces.ocs, pick, List.eraseIdx_cons_zero, List.eraseIdx_cons_succ, List.set_cons_zero, List.set_cons_succ, List.cons_append, List.nil_append, List.getElem?_cons_zero, List.getElem?_cons_succ, List.append_nil]; exact rfl) | exact rfl) ?_
    refine sq_callG [1, 1] rfl rfl rfl rfl Try.call103 rfl (gspec_sel (own2 rfl (List.map_set).symm) (nextS_own (setP p k g) (x37.1, x37.2) (by rw [setP_size]; omega) ⟨h8.1, h8.2.1⟩)) (evl_cons (ev_tmp rfl) evl_nil) rfl ?_
    intro x44 ok44
    refine sq_plain rfl rfl rfl (w_extract rfl (ev_tmp rfl) rfl) ?_
    refine sq_plain rfl rfl rfl (w_extract rfl (ev_tmp rfl) rfl) ?_
    refine sq_storeB0 3 rfl rfl rfl (ev_tmp rfl) (ev_tmp rfl) (as_agg _) rfl Try.sizeOf57 rfl ?_
    refine sq_plain rfl rfl rfl (w_assign rfl (ev_tmp rfl)) ?_
    refine sq_nil ?_
    refine awp_ret ?_
    exact retG [0, 0] (x44.1, x44.2) (trivial) rfl (by rfl) (resN rfl (by decide) (rv_cons (rv_cell (ys := _) 3 rfl rfl Try.isAgg57 Try.sizeOf57 rfl) (rv_cons (rv_tmp' rfl (by rfl)) rv_nil)))
theorem giveToS_spec (p : TPlaces) (i g : Int) (hs : p.size ≤ 2097152) : FSpec Try.prog 29 [AV.agg p.cs, AV.int i, AV.int g] (AV.tup [AV.agg (giveToS p i g).1.cs, AV.bool (giveToS p i g).2]) :=
  fspec_of_gspec (giveToS_own p i g hs) fun x _ => lt_tup (lc_cons (lt_agg (TPlaces.lc _ x)) (lc_cons lt_refl lc_nil))
theorem cut_len {p : TPlaces} {m : Nat} (hs : p.size ≤ m) : ∀ k ∈ p.Cuts, k.length ≤ m := fun k hk => by
  have h1 := sizeL_mem (f := fun x : Str => x.length) hk
  unfold TPlaces.size at hs
  omega
theorem isNext1_spec (p : TPlaces) (ok : Bool) (b : TPlaces) : FSpec Try.prog 177 [AV.agg p.cs, AV.bool ok, AV.eptr b.cs] (AV.bool (ok && samePlaces p b)) := by
  refine spec_of_awp Try.func177 rfl Try.ntmps177 rfl ?_
  refine awp_seq ?_
  refine awp_region ?_
  refine sq_box rfl rfl rfl rfl (ev_tmp rfl) ?_
  intro b3
  refine sq_plain rfl rfl rfl (w_assign rfl ev_cb) ?_
  refine sq_nil ?_
  refine awp_seq ?_
  refine awp_region ?_
  refine sq_plain rfl rfl rfl (w_move rfl (ev_tmp rfl)) ?_
  refine sq_plain rfl rfl rfl (w_move rfl (ev_tmp rfl)) ?_
  refine sq_grd rfl rfl (guard_t rfl rfl rfl) (fun hc => w_loadA 0 rfl (ev_tmp rfl) rfl Try.isAgg57 Try.sizeOf57 rfl) ?_
  refine sq_grd rfl rfl (guard_t rfl rfl rfl) (fun hc => w_loadE rfl (ev_tmp rfl) Try.isAgg57 Try.sizeOf57) ?_
  refine sq_grd rfl rfl (guard_t rfl rfl rfl) (fun hc => w_call rfl Try.call178 rfl (samePlaces_spec _ _) (evl_cons (ev_whn rfl hc) (evl_cons (ev_whn rfl hc) evl_nil))) ?_
  refine sq_plain rfl rfl rfl (w_and rfl (ev_tmp rfl) (evif_w rfl)) ?_
  refine sq_plain rfl rfl rfl (w_assign rfl (ev_tmp rfl)) ?_
  refine sq_nil ?_
  refine awp_ret ?_
  exact retR rfl (rv_tmp' rfl (by first | rfl | (refine congrArg AV.bool ?_; simp_all; done)))
theorem isNext_spec (a b : TPlaces) (ha : a.size ≤ 1048576) (hb : b.size ≤ 1048576) : FSpec Try.prog 123 [AV.agg a.cs, AV.agg b.cs] (AV.bool (isNext a b)) := by
  have hcl := cut_len hb
  have hgl : a.Groups.length ≤ 1048576 := by unfold TPlaces.size at ha; omega
  have hcn : b.Cuts.length ≤ 1048576 := Nat.le_trans sizeL_len (show sizeL (fun x : Str => x.length) b.Cuts ≤ 1048576 by unfold TPlaces.size at hb; omega)
  refine spec_of_awp Try.func123 rfl Try.ntmps123 rfl ?_
  refine awp_seq ?_
  refine awp_region ?_
  refine sq_box rfl rfl rfl rfl (ev_tmp rfl) ?_
  intro b2
  refine sq_box rfl rfl rfl rfl (ev_tmp rfl) ?_
  intro b3
  refine sq_plain rfl rfl rfl (w_assign rfl ev_cb) ?_
  refine sq_nil ?_
  refine awp_seq ?_
  refine awp_region ?_
  refine sq_plain rfl rfl rfl (w_clo rfl rfl (evl_cons (ev_tmp rfl) evl_nil)) ?_
  refine sq_plain rfl rfl rfl (w_assign rfl (ev_tmp rfl)) ?_
  refine sq_nil ?_
  refine awp_seq ?_
  refine awp_seq ?_
  refine awp_region ?_
  refine sq_plain rfl rfl rfl (w_fldBn 1 rfl Try.underlying57 rfl Try.sizeOf52 (ev_tmp rfl) rfl) ?_
  refine sq_plain rfl rfl rfl (w_loadB1 0 rfl (ev_tmp rfl) rfl Try.isAgg52 rfl) ?_
  refine sq_plain rfl rfl rfl (w_llen rfl Try.underlying52 (ev_tmp rfl)) ?_
  refine sq_plain rfl rfl rfl (w_move rfl ev_ci) ?_
  refine sq_nil ?_
  refine awp_block ?_
  refine awp_loop_i [(2, _), (5, _), (13, _), (14, _)] _ (fun (i : Nat) => i ≤ b.Cuts.length ∧ b.Cuts.any (fun k => hit (splitAt a k) b) = (b.Cuts.drop i).any (fun k => hit (splitAt a k) b)) (fun (i : Nat) => []) (fun (i : Nat) => [(15, AV.int i)]) (fun (i : Nat) => b.Cuts.length - i) (0) ?_ (le_env ⟨rfl, rfl, rfl, rfl, rfl, trivial⟩) ?_
  · exact ⟨Nat.zero_le _, rfl⟩
  intro i hinv
  refine awp_seq ?_
  refine awp_region ?_
  refine sq_plain rfl rfl rfl (w_lss rfl (ev_tmp rfl) (ev_tmp rfl)) ?_
  refine sq_nil ?_
  refine awp_seq ?_
  refine awp_cond (ev_tmp rfl) ?_ ?_
  · intro h16
    have k16 := of_decide_eq_true h16; try simp only [List.length_map] at k16
    have hlt : i < b.Cuts.length := by omega
    obtain ⟨x, hx⟩ := get_some hlt
    have hxl := hcl x (List.mem_of_getElem? hx)
    refine awp_skip ?_
    refine awp_seq ?_
    refine awp_block ?_
    refine awp_seq ?_
    refine awp_region ?_
    refine sq_plain rfl rfl rfl (w_idxm rfl Try.underlying52 Try.sizeOf9 (ev_tmp rfl) (ev_tmp rfl) hx (by first | omega | ((try simp only [List.length_map, List.length_take, List.length_cons, List.length_nil, chunks_len, szR] at *); omega) | (have hc2 := hc; simp only [Bool.and_eq_true, Bool.or_eq_true, Bool.or_eq_false_iff, Bool.and_eq_false_iff, Bool.not_eq_true', Bool.not_eq_false', decide_eq_true_eq, decide_eq_false_iff_not, beq_iff_eq, bne_iff_ne, List.length_map, List.length_take] at hc2; omega))) ?_
    refine sq_plain rfl rfl rfl (w_loadE1 rfl (ev_tmp rfl) Try.isAgg9 rfl) ?_
    refine sq_plain rfl rfl rfl (w_assign rfl (ev_tmp rfl)) ?_
    refine sq_nil ?_
    refine awp_seq ?_
    refine awp_region ?_
    refine sq_plain rfl rfl rfl (w_move rfl (ev_tmp rfl)) ?_
    refine sq_plain rfl rfl rfl (w_loadA 1 rfl (ev_tmp rfl) rfl Try.isAgg57 Try.sizeOf57 rfl) ?_
    refine sq_plain rfl rfl rfl (w_move rfl (ev_tmp rfl)) ?_
    refine sq_plain rfl rfl rfl (w_call rfl Try.call25 rfl (splitAt_spec _ _ (by first | assumption | omega) (by first | assumption | omega)) (evl_cons (ev_tmp rfl) (evl_cons (ev_tmp rfl) evl_nil))) ?_
    refine sq_plain rfl rfl rfl (w_extract rfl (ev_tmp rfl) rfl) ?_
    refine sq_plain rfl rfl rfl (w_extract rfl (ev_tmp rfl) rfl) ?_
    refine sq_plain rfl rfl rfl (w_callclo (xs := [AV.agg (splitAt a x).1.cs, AV.bool (splitAt a x).2]) 0 rfl Try.call177 (ev_tmp rfl) rfl rfl (isNext1_spec _ _ _) (flat_bool _) (evlb_cons (evb (ev_tmp rfl)) (evlb_cons (evb (ev_tmp rfl)) evlb_nil))) ?_
    refine sq_nil ?_
    refine awp_cond (ev_tmp rfl) ?_ ?_
    · intro h25
      have hfin : isNext a b = true := by unfold isNext; rw [hinv.2, drop_some hx, List.any_cons, show hit (splitAt a x) b = true from h25]; rfl
      refine awp_seq ?_
      refine awp_region ?_
      refine sq_plain rfl rfl rfl (w_assign rfl ev_cb) ?_
      refine sq_nil ?_
      refine awp_ret ?_
      exact retR rfl (rv_tmp' rfl (by exact congrArg AV.bool hfin.symm))
    · intro h25
      refine awp_skip ?_
      refine awp_region ?_
      refine sq_plain rfl rfl rfl (w_addi rfl (ev_tmp rfl) ev_ci (by first | omega | ((try simp only [List.length_map, List.length_take, List.length_cons, List.length_nil, chunks_len, szR] at *); omega) | (have hc2 := hc; simp only [Bool.and_eq_true, Bool.or_eq_true, Bool.or_eq_false_iff, Bool.and_eq_false_iff, Bool.not_eq_true', Bool.not_eq_false', decide_eq_true_eq, decide_eq_false_iff_not, beq_iff_eq, bne_iff_ne, List.length_map, List.length_take] at hc2; omega))) ?_
      refine sq_plain rfl rfl rfl (w_move rfl (ev_tmp rfl)) ?_
      refine sq_nil ?_
      refine round_end i (i + 1) ?_ ?_ (le_env ⟨rfl, rfl, rfl, rfl, rfl, trivial⟩)
      · exact ⟨by omega, by rw [hinv.2, drop_some hx, List.any_cons, show hit (splitAt a x) b = false from h25]; rfl⟩
      · omega
  · intro h16
    have k16 := of_decide_eq_false h16; try simp only [List.length_map] at k16
    have hge : b.Cuts.length ≤ i := by omega
    have hc0 : b.Cuts.any (fun k => hit (splitAt a k) b) = false := by rw [hinv.2, List.drop_eq_nil_of_le hge]; rfl
    refine awp_exit ?_
    refine awp_seq ?_
    refine awp_seq ?_
    refine awp_region ?_
    refine sq_plain rfl rfl rfl (w_fldBn 2 rfl Try.underlying57 rfl Try.sizeOf55 (ev_tmp rfl) rfl) ?_
    refine sq_plain rfl rfl rfl (w_loadB1 1 rfl (ev_tmp rfl) rfl Try.isAgg55 rfl) ?_
    refine sq_plain rfl rfl rfl (w_llen rfl Try.underlying55 (ev_tmp rfl)) ?_
    refine sq_plain rfl rfl rfl (w_move rfl ev_ci) ?_
    refine sq_nil ?_
    refine awp_block ?_
    refine awp_loop_i [(2, _), (5, _), (28, _), (29, _)] _ (fun (i : Nat) => i ≤ a.Groups.length ∧ anyI (nextAt a b) a.Groups 0 = anyI (nextAt a b) (a.Groups.drop i) i) (fun (i : Nat) => []) (fun (i : Nat) => [(30, AV.int i)]) (fun (i : Nat) => a.Groups.length - i) (0) ?_ (le_env ⟨rfl, rfl, rfl, rfl, rfl, trivial⟩) ?_
    · exact ⟨Nat.zero_le _, rfl⟩
    intro i hinv
    have hinv1 := hinv
    refine awp_seq ?_
    refine awp_region ?_
    refine sq_plain rfl rfl rfl (w_lss rfl (ev_tmp rfl) (ev_tmp rfl)) ?_
    refine sq_nil ?_
    refine awp_seq ?_
    refine awp_cond (ev_tmp rfl) ?_ ?_
    · intro h31
      have k31 := of_decide_eq_true h31; try simp only [List.length_map] at k31
      have hlt1 : i < a.Groups.length := by omega
      obtain ⟨x, hx⟩ := get_some hlt1
      refine awp_skip ?_
      refine awp_seq ?_
      refine awp_block ?_
      refine awp_seq ?_
      refine awp_region ?_
      refine sq_plain rfl rfl rfl (w_move rfl (ev_tmp rfl)) ?_
      refine sq_plain rfl rfl rfl (w_idxm rfl Try.underlying55 Try.sizeOf3 (ev_tmp rfl) (ev_tmp rfl) hx (by first | omega | ((try simp only [List.length_map, List.length_take, List.length_cons, List.length_nil, chunks_len, szR] at *); omega) | (have hc2 := hc; simp only [Bool.and_eq_true, Bool.or_eq_true, Bool.or_eq_false_iff, Bool.and_eq_false_iff, Bool.not_eq_true', Bool.not_eq_false', decide_eq_true_eq, decide_eq_false_iff_not, beq_iff_eq, bne_iff_ne, List.length_map, List.length_take] at hc2; omega))) ?_
      refine sq_plain rfl rfl rfl (w_loadE1 rfl (ev_tmp rfl) Try.isAgg3 rfl) ?_
      refine sq_plain rfl rfl rfl (w_assign rfl (ev_tmp rfl)) ?_
      refine sq_plain rfl rfl rfl (w_assign rfl (ev_tmp rfl)) ?_
      refine sq_nil ?_
      refine awp_seq ?_
      refine awp_seq ?_
      refine awp_region ?_
      refine sq_plain rfl rfl rfl (w_move rfl (ev_tmp rfl)) ?_
      refine sq_plain rfl rfl rfl (w_loadA 1 rfl (ev_tmp rfl) rfl Try.isAgg57 Try.sizeOf57 rfl) ?_
      refine sq_plain rfl rfl rfl (w_move rfl (ev_tmp rfl)) ?_
      refine sq_plain rfl rfl rfl (w_call rfl Try.call31 rfl (joinAt_spec _ _ (by first | assumption | omega)) (evl_cons (ev_tmp rfl) (evl_cons (ev_tmp rfl) evl_nil))) ?_
      refine sq_plain rfl rfl rfl (w_extract rfl (ev_tmp rfl) rfl) ?_
      refine sq_plain rfl rfl rfl (w_extract rfl (ev_tmp rfl) rfl) ?_
      refine sq_plain rfl rfl rfl (w_callclo (xs := [AV.agg (joinAt a i).1.cs, AV.bool (joinAt a i).2]) 0 rfl Try.call177 (ev_tmp rfl) rfl rfl (isNext1_spec _ _ _) (flat_bool _) (evlb_cons (evb (ev_tmp rfl)) (evlb_cons (evb (ev_tmp rfl)) evlb_nil))) ?_
      refine sq_nil ?_
      refine awp_cond (ev_tmp rfl) ?_ ?_
      · intro h41
        have hfin : isNext a b = true := by unfold isNext; rw [hc0, hinv1.2, drop_some hx, anyI]; unfold nextAt; rw [show hit (joinAt a i) b = true from h41]; rfl
        refine awp_seq ?_
        refine awp_region ?_
        refine sq_plain rfl rfl rfl (w_assign rfl ev_cb) ?_
        refine sq_nil ?_
        refine awp_ret ?_
        exact retR rfl (rv_tmp' rfl (by exact congrArg AV.bool hfin.symm))
      · intro h41
        refine awp_skip ?_
        refine awp_seq ?_
        refine awp_region ?_
        refine sq_plain rfl rfl rfl (w_move rfl ev_ci) ?_
        refine sq_nil ?_
        refine awp_block ?_
        refine awp_loop_i [(2, _), (5, _), (8, _), (9, _), (28, _), (29, _), (30, _), (31, _), (32, _), (33, _), (34, _), (35, _), (36, _), (37, _), (38, _), (39, _), (40, _), (41, _)] _ (fun (k : Nat) => k ≤ 4 ∧ ra (fun k => k != x && hit (giveTo a i k) b) 0 = ra (fun k => k != x && hit (giveTo a i k) b) k) (fun (k : Nat) => []) (fun (k : Nat) => [(42, AV.int k)]) (fun (k : Nat) => 4 - k) (0) ?_ (le_env ⟨rfl, rfl, rfl, rfl, rfl, rfl, rfl, rfl, rfl, rfl, rfl, rfl, rfl, rfl, rfl, rfl, rfl, rfl, rfl, trivial⟩) ?_
        · exact ⟨Nat.zero_le _, rfl⟩
        intro k hinv
        refine awp_seq ?_
        refine awp_region ?_
        refine sq_plain rfl rfl rfl (w_lss rfl (ev_tmp rfl) ev_ci) ?_
        refine sq_nil ?_
        refine awp_seq ?_
        refine awp_cond (ev_tmp rfl) ?_ ?_
        · intro h43
          have k43 := of_decide_eq_true h43; try simp only [List.length_map] at k43
          refine awp_skip ?_
          refine awp_seq ?_
          refine awp_block ?_
          refine awp_seq ?_
          refine awp_region ?_
          refine sq_plain rfl rfl rfl (w_move rfl (ev_tmp rfl)) ?_
          refine sq_plain rfl rfl rfl (w_assign rfl (ev_tmp rfl)) ?_
          refine sq_nil ?_
          refine awp_seq ?_
          refine awp_region ?_
          refine sq_plain rfl rfl rfl (w_move rfl (ev_tmp rfl)) ?_
          refine sq_plain rfl rfl rfl (w_move rfl (ev_tmp rfl)) ?_
          refine sq_plain rfl rfl rfl (w_neq rfl (ev_tmp rfl) (ev_tmp rfl)) ?_
          refine sq_plain rfl rfl rfl (w_move rfl (ev_tmp rfl)) ?_
          refine sq_grd rfl rfl (guard_t rfl rfl rfl) (fun hc => w_move rfl (ev_tmp rfl)) ?_
          refine sq_grd rfl rfl (guard_t rfl rfl rfl) (fun hc => w_loadA 1 rfl (ev_tmp rfl) rfl Try.isAgg57 Try.sizeOf57 rfl) ?_
          refine sq_grd rfl rfl (guard_t rfl rfl rfl) (fun hc => w_move rfl (ev_tmp rfl)) ?_
          refine sq_grd rfl rfl (guard_t rfl rfl rfl) (fun hc => w_move rfl (ev_tmp rfl)) ?_
          refine sq_grd rfl rfl (guard_t rfl rfl rfl) (fun hc => w_call rfl Try.call28 rfl (giveTo_spec _ _ _ (by first | assumption | omega)) (evl_cons (ev_whn rfl hc) (evl_cons (ev_whn rfl hc) (evl_cons (ev_whn rfl hc) evl_nil)))) ?_
          refine sq_grd rfl rfl (guard_t rfl rfl rfl) (fun hc => w_extract rfl (ev_whn rfl hc) rfl) ?_
          refine sq_grd rfl rfl (guard_t rfl rfl rfl) (fun hc => w_extract rfl (ev_whn rfl hc) rfl) ?_
          refine sq_grd rfl rfl (guard_t rfl rfl rfl) (fun hc => w_callclo (xs := [AV.agg (giveTo a i k).1.cs, AV.bool (giveTo a i k).2]) 0 rfl Try.call177 (ev_whn rfl hc) rfl rfl (isNext1_spec _ _ _) (flat_bool _) (evlb_cons (evb (ev_whn rfl hc)) (evlb_cons (evb (ev_whn rfl hc)) evlb_nil))) ?_
          refine sq_plain rfl rfl rfl (w_and rfl (ev_tmp rfl) (evif_w rfl)) ?_
          refine sq_nil ?_
          refine awp_cond (ev_tmp rfl) ?_ ?_
          · intro h57
            have hfin : isNext a b = true := by unfold isNext; rw [hc0, hinv1.2, drop_some hx, anyI]; unfold nextAt; rw [hinv.2, ra_step (by omega), show ((k : Int) != x && hit (giveTo a i k) b) = true from h57]; simp
            refine awp_seq ?_
            refine awp_region ?_
            refine sq_plain rfl rfl rfl (w_assign rfl ev_cb) ?_
            refine sq_nil ?_
            refine awp_ret ?_
            exact retR rfl (rv_tmp' rfl (by exact congrArg AV.bool hfin.symm))
          · intro h57
            refine awp_skip ?_
            refine awp_region ?_
            refine sq_plain rfl rfl rfl (w_addi rfl (ev_tmp rfl) ev_ci (by first | omega | ((try simp only [List.length_map, List.length_take, List.length_cons, List.length_nil, chunks_len, szR] at *); omega) | (have hc2 := hc; simp only [Bool.and_eq_true, Bool.or_eq_true, Bool.or_eq_false_iff, Bool.and_eq_false_iff, Bool.not_eq_true', Bool.not_eq_false', decide_eq_true_eq, decide_eq_false_iff_not, beq_iff_eq, bne_iff_ne, List.length_map, List.length_take] at hc2; omega))) ?_
            refine sq_plain rfl rfl rfl (w_move rfl (ev_tmp rfl)) ?_
            refine sq_nil ?_
            refine round_end k (k + 1) ?_ ?_ (le_env ⟨rfl, rfl, rfl, rfl, rfl, rfl, rfl, rfl, rfl, rfl, rfl, rfl, rfl, rfl, rfl, rfl, rfl, rfl, rfl, trivial⟩)
            · exact ⟨by omega, by rw [hinv.2, ra_step (by omega)]; rw [show ((k : Int) != x && hit (giveTo a i k) b) = false from h57]; rfl⟩
            · omega
        · intro h43
          have k43 := of_decide_eq_false h43; try simp only [List.length_map] at k43
          have hno : nextAt a b i x = false := by unfold nextAt; rw [show hit (joinAt a i) b = false from h41, hinv.2, ra_end (by omega)]; rfl
          refine awp_exit ?_
          refine awp_region ?_
          refine sq_plain rfl rfl rfl (w_addi rfl (ev_tmp rfl) ev_ci (by first | omega | ((try simp only [List.length_map, List.length_take, List.length_cons, List.length_nil, chunks_len, szR] at *); omega) | (have hc2 := hc; simp only [Bool.and_eq_true, Bool.or_eq_true, Bool.or_eq_false_iff, Bool.and_eq_false_iff, Bool.not_eq_true', Bool.not_eq_false', decide_eq_true_eq, decide_eq_false_iff_not, beq_iff_eq, bne_iff_ne, List.length_map, List.length_take] at hc2; omega))) ?_
          refine sq_plain rfl rfl rfl (w_move rfl (ev_tmp rfl)) ?_
          refine sq_nil ?_
          refine round_end i (i + 1) ?_ ?_ (le_env ⟨rfl, rfl, rfl, rfl, rfl, trivial⟩)
          · exact ⟨by omega, by rw [hinv1.2, drop_some hx, anyI, hno]; rfl⟩
          · omega
    · intro h31
      have k31 := of_decide_eq_false h31; try simp only [List.length_map] at k31
      have hge1 : a.Groups.length ≤ i := by omega
      have hfin : isNext a b = false := by unfold isNext; rw [hc0, hinv1.2, List.drop_eq_nil_of_le hge1]; rfl
      refine awp_exit ?_
      refine awp_seq ?_
      refine awp_region ?_
      refine sq_plain rfl rfl rfl (w_assign rfl ev_cb) ?_
      refine sq_nil ?_
      refine awp_ret ?_
      exact retR rfl (rv_tmp' rfl (by exact congrArg AV.bool hfin.symm))
theorem l21Next_spec (a b : TPlaces) (ha : a.size ≤ 1048576) (hb : b.size ≤ 1048576) : FSpec Try.prog 126 [AV.agg a.cs, AV.agg b.cs] (AV.bool (isNextS a b)) := by
  have hcl := cut_len hb
  have hgl : a.Groups.length ≤ 1048576 := by unfold TPlaces.size at ha; omega
  have hcn : b.Cuts.length ≤ 1048576 := Nat.le_trans sizeL_len (show sizeL (fun x : Str => x.length) b.Cuts ≤ 1048576 by unfold TPlaces.size at hb; omega)
  refine spec_of_awp Try.func126 rfl Try.ntmps126 rfl ?_
  refine awp_seq ?_
  refine awp_region ?_
  refine sq_box rfl rfl rfl rfl (ev_tmp rfl) ?_
  intro b2
  refine sq_box rfl rfl rfl rfl (ev_tmp rfl) ?_
  intro b3
  refine sq_plain rfl rfl rfl (w_assign rfl ev_cb) ?_
  refine sq_nil ?_
  refine awp_seq ?_
  refine awp_seq ?_
  refine awp_region ?_
  refine sq_plain rfl rfl rfl (w_fldBn 1 rfl Try.underlying57 rfl Try.sizeOf52 (ev_tmp rfl) rfl) ?_
  refine sq_plain rfl rfl rfl (w_loadB1 0 rfl (ev_tmp rfl) rfl Try.isAgg52 rfl) ?_
  refine sq_plain rfl rfl rfl (w_llen rfl Try.underlying52 (ev_tmp rfl)) ?_
  refine sq_plain rfl rfl rfl (w_move rfl ev_ci) ?_
  refine sq_nil ?_
  refine awp_block ?_
  refine awp_loop_i [(2, _), (3, _), (16, _), (17, _)] _ (fun (i : Nat) => i ≤ b.Cuts.length ∧ b.Cuts.any (fun k => hit (splitAtS a k) b) = (b.Cuts.drop i).any (fun k => hit (splitAtS a k) b)) (fun (i : Nat) => []) (fun (i : Nat) => [(18, AV.int i)]) (fun (i : Nat) => b.Cuts.length - i) (0) ?_ (le_env ⟨rfl, rfl, rfl, rfl, rfl, trivial⟩) ?_
  · exact ⟨Nat.zero_le _, rfl⟩
  intro i hinv
  refine awp_seq ?_
  refine awp_region ?_
  refine sq_plain rfl rfl rfl (w_lss rfl (ev_tmp rfl) (ev_tmp rfl)) ?_
  refine sq_nil ?_
  refine awp_seq ?_
  refine awp_cond (ev_tmp rfl) ?_ ?_
  · intro h19
    have k19 := of_decide_eq_true h19; try simp only [List.length_map] at k19
    have hlt : i < b.Cuts.length := by omega
    obtain ⟨x, hx⟩ := get_some hlt
    have hxl := hcl x (List.mem_of_getElem? hx)
    refine awp_skip ?_
    refine awp_seq ?_
    refine awp_block ?_
    refine awp_seq ?_
    refine awp_region ?_
    refine sq_plain rfl rfl rfl (w_idxm rfl Try.underlying52 Try.sizeOf9 (ev_tmp rfl) (ev_tmp rfl) hx (by first | omega | ((try simp only [List.length_map, List.length_take, List.length_cons, List.length_nil, chunks_len, szR] at *); omega) | (have hc2 := hc; simp only [Bool.and_eq_true, Bool.or_eq_true, Bool.or_eq_false_iff, Bool.and_eq_false_iff, Bool.not_eq_true', Bool.not_eq_false', decide_eq_true_eq, decide_eq_false_iff_not, beq_iff_eq, bne_iff_ne, List.length_map, List.length_take] at hc2; omega))) ?_
    refine sq_plain rfl rfl rfl (w_loadE1 rfl (ev_tmp rfl) Try.isAgg9 rfl) ?_
    refine sq_plain rfl rfl rfl (w_assign rfl (ev_tmp rfl)) ?_
    refine sq_nil ?_
    refine awp_seq ?_
    refine awp_region ?_
    refine sq_plain rfl rfl rfl (w_loadA 1 rfl (ev_tmp rfl) rfl Try.isAgg57 Try.sizeOf57 rfl) ?_
    refine sq_plain rfl rfl rfl (w_move rfl (ev_tmp rfl)) ?_
    refine sq_plain rfl rfl rfl (w_call rfl Try.call26 rfl (splitAtS_spec _ _ (by first | assumption | omega) (by first | assumption | omega)) (evl_cons (ev_tmp rfl) (evl_cons (ev_tmp rfl) evl_nil))) ?_
    refine sq_plain rfl rfl rfl (w_move rfl (ev_tmp rfl)) ?_
    refine sq_plain rfl rfl rfl (w_extract rfl (ev_tmp rfl) rfl) ?_
    refine sq_plain rfl rfl rfl (w_extract rfl (ev_tmp rfl) rfl) ?_
    refine sq_alloc rfl rfl rfl rfl Try.zeroValue57 rfl ?_
    intro b7
    refine sq_storeB0 0 rfl rfl rfl (ev_tmp rfl) (ev_tmp rfl) (as_agg _) rfl Try.sizeOf57 rfl ?_
    refine sq_plain rfl rfl rfl (w_assign rfl (ev_tmp rfl)) ?_
    refine sq_nil ?_
    refine awp_seq ?_
    refine awp_region ?_
    refine sq_plain rfl rfl rfl (w_move rfl (ev_tmp rfl)) ?_
    refine sq_plain rfl rfl rfl (w_move rfl (ev_tmp rfl)) ?_
    refine sq_grd rfl rfl (guard_t rfl rfl rfl) (fun hc => w_loadA 0 rfl (ev_tmp rfl) rfl Try.isAgg57 Try.sizeOf57 rfl) ?_
    refine sq_grd rfl rfl (guard_t rfl rfl rfl) (fun hc => w_loadA 1 rfl (ev_tmp rfl) rfl Try.isAgg57 Try.sizeOf57 rfl) ?_
    refine sq_grd rfl rfl (guard_t rfl rfl rfl) (fun hc => w_call rfl Try.call180 rfl (l21Same_spec _ _) (evl_cons (ev_whn rfl hc) (evl_cons (ev_whn rfl hc) evl_nil))) ?_
    refine sq_plain rfl rfl rfl (w_and rfl (ev_tmp rfl) (evif_w rfl)) ?_
    refine sq_nil ?_
    refine awp_cond (ev_tmp rfl) ?_ ?_
    · intro h33
      have hfin : isNextS a b = true := by unfold isNextS; rw [hinv.2, drop_some hx, List.any_cons, show hit (splitAtS a x) b = true from h33]; rfl
      refine awp_seq ?_
      refine awp_region ?_
      refine sq_plain rfl rfl rfl (w_assign rfl ev_cb) ?_
      refine sq_nil ?_
      refine awp_ret ?_
      exact retR rfl (rv_tmp' rfl (by exact congrArg AV.bool hfin.symm))
    · intro h33
      refine awp_skip ?_
      refine awp_region ?_
      refine sq_plain rfl rfl rfl (w_addi rfl (ev_tmp rfl) ev_ci (by first | omega | ((try simp only [List.length_map, List.length_take, List.length_cons, List.length_nil, chunks_len, szR] at *); omega) | (have hc2 := hc; simp only [Bool.and_eq_true, Bool.or_eq_true, Bool.or_eq_false_iff, Bool.and_eq_false_iff, Bool.not_eq_true', Bool.not_eq_false', decide_eq_true_eq, decide_eq_false_iff_not, beq_iff_eq, bne_iff_ne, List.length_map, List.length_take] at hc2; omega))) ?_
      refine sq_plain rfl rfl rfl (w_move rfl (ev_tmp rfl)) ?_
      refine sq_nil ?_
      refine round_end i (i + 1) ?_ ?_ (le_drop 1 ⟨rfl, rfl, rfl, rfl, rfl, trivial⟩)
      · exact ⟨by omega, by rw [hinv.2, drop_some hx, List.any_cons, show hit (splitAtS a x) b = false from h33]; rfl⟩
      · omega
  · intro h19
    have k19 := of_decide_eq_false h19; try simp only [List.length_map] at k19
    have hge : b.Cuts.length ≤ i := by omega
    have hc0 : b.Cuts.any (fun k => hit (splitAtS a k) b) = false := by rw [hinv.2, List.drop_eq_nil_of_le hge]; rfl
    refine awp_exit ?_
    refine awp_seq ?_
    refine awp_seq ?_
    refine awp_region ?_
    refine sq_plain rfl rfl rfl (w_fldBn 2 rfl Try.underlying57 rfl Try.sizeOf55 (ev_tmp rfl) rfl) ?_
    refine sq_plain rfl rfl rfl (w_loadB1 1 rfl (ev_tmp rfl) rfl Try.isAgg55 rfl) ?_
    refine sq_plain rfl rfl rfl (w_llen rfl Try.underlying55 (ev_tmp rfl)) ?_
    refine sq_plain rfl rfl rfl (w_move rfl ev_ci) ?_
    refine sq_nil ?_
    refine awp_block ?_
    refine awp_loop_i [(2, _), (3, _), (37, _)] _ (fun (i : Nat) => i ≤ a.Groups.length ∧ anyI (nextAtS a b) a.Groups 0 = anyI (nextAtS a b) (a.Groups.drop i) i) (fun (i : Nat) => []) (fun (i : Nat) => [(38, AV.int i)]) (fun (i : Nat) => a.Groups.length - i) (0) ?_ (le_env ⟨rfl, rfl, rfl, rfl, trivial⟩) ?_
    · exact ⟨Nat.zero_le _, rfl⟩
    intro i hinv
    have hinv1 := hinv
    refine awp_seq ?_
    refine awp_region ?_
    refine sq_plain rfl rfl rfl (w_lss rfl (ev_tmp rfl) (ev_tmp rfl)) ?_
    refine sq_nil ?_
    refine awp_seq ?_
    refine awp_cond (ev_tmp rfl) ?_ ?_
    · intro h39
      have k39 := of_decide_eq_true h39; try simp only [List.length_map] at k39
      have hlt1 : i < a.Groups.length := by omega
      obtain ⟨x, hx⟩ := get_some hlt1
      refine awp_skip ?_
      refine awp_seq ?_
      refine awp_block ?_
      refine awp_seq ?_
      refine awp_region ?_
      refine sq_plain rfl rfl rfl (w_move rfl (ev_tmp rfl)) ?_
      refine sq_plain rfl rfl rfl (w_assign rfl (ev_tmp rfl)) ?_
      refine sq_nil ?_
      refine awp_seq ?_
      refine awp_seq ?_
      refine awp_region ?_
      refine sq_plain rfl rfl rfl (w_loadA 1 rfl (ev_tmp rfl) rfl Try.isAgg57 Try.sizeOf57 rfl) ?_
      refine sq_plain rfl rfl rfl (w_move rfl (ev_tmp rfl)) ?_
      refine sq_plain rfl rfl rfl (w_call rfl Try.call32 rfl (joinAtS_spec _ _ (by first | assumption | omega)) (evl_cons (ev_tmp rfl) (evl_cons (ev_tmp rfl) evl_nil))) ?_
      refine sq_plain rfl rfl rfl (w_move rfl (ev_tmp rfl)) ?_
      refine sq_plain rfl rfl rfl (w_extract rfl (ev_tmp rfl) rfl) ?_
      refine sq_plain rfl rfl rfl (w_extract rfl (ev_tmp rfl) rfl) ?_
      refine sq_alloc rfl rfl rfl rfl Try.zeroValue57 rfl ?_
      intro b10
      refine sq_storeB0 0 rfl rfl rfl (ev_tmp rfl) (ev_tmp rfl) (as_agg _) rfl Try.sizeOf57 rfl ?_
      refine sq_plain rfl rfl rfl (w_assign rfl (ev_tmp rfl)) ?_
      refine sq_nil ?_
      refine awp_seq ?_
      refine awp_region ?_
      refine sq_plain rfl rfl rfl (w_move rfl (ev_tmp rfl)) ?_
      refine sq_plain rfl rfl rfl (w_move rfl (ev_tmp rfl)) ?_
      refine sq_grd rfl rfl (guard_t rfl rfl rfl) (fun hc => w_loadA 0 rfl (ev_tmp rfl) rfl Try.isAgg57 Try.sizeOf57 rfl) ?_
      refine sq_grd rfl rfl (guard_t rfl rfl rfl) (fun hc => w_loadA 1 rfl (ev_tmp rfl) rfl Try.isAgg57 Try.sizeOf57 rfl) ?_
      refine sq_grd rfl rfl (guard_t rfl rfl rfl) (fun hc => w_call rfl Try.call180 rfl (l21Same_spec _ _) (evl_cons (ev_whn rfl hc) (evl_cons (ev_whn rfl hc) evl_nil))) ?_
      refine sq_plain rfl rfl rfl (w_and rfl (ev_tmp rfl) (evif_w rfl)) ?_
      refine sq_nil ?_
      refine awp_cond (ev_tmp rfl) ?_ ?_
      · intro h52
        have hfin : isNextS a b = true := by unfold isNextS; rw [hc0, hinv1.2, drop_some hx, anyI]; unfold nextAtS; rw [show hit (joinAtS a i) b = true from h52]; rfl
        refine awp_seq ?_
        refine awp_region ?_
        refine sq_plain rfl rfl rfl (w_assign rfl ev_cb) ?_
        refine sq_nil ?_
        refine awp_ret ?_
        exact retR rfl (rv_tmp' rfl (by exact congrArg AV.bool hfin.symm))
      · intro h52
        refine awp_skip ?_
        refine awp_seq ?_
        refine awp_region ?_
        refine sq_plain rfl rfl rfl (w_assign rfl ev_ci) ?_
        refine sq_nil ?_
        refine awp_block ?_
        refine awp_loop_i [(2, _), (3, _), (9, _), (10, _), (11, _), (37, _), (38, _), (39, _), (40, _), (41, _), (42, _), (43, _), (44, _), (45, _), (46, _), (47, _), (48, _), (52, _)] _ (fun (k : Nat) => k ≤ 4 ∧ ra (fun k => hit (giveToS a i k) b) 0 = ra (fun k => hit (giveToS a i k) b) k) (fun (k : Nat) => []) (fun (k : Nat) => [(12, AV.int k)]) (fun (k : Nat) => 4 - k) (0) ?_ (le_env ⟨rfl, rfl, rfl, rfl, rfl, rfl, rfl, rfl, rfl, rfl, rfl, rfl, rfl, rfl, rfl, rfl, rfl, rfl, rfl, trivial⟩) ?_
        · exact ⟨Nat.zero_le _, rfl⟩
        intro k hinv
        refine awp_seq ?_
        refine awp_seq ?_
        refine awp_region ?_
        refine sq_plain rfl rfl rfl (w_move rfl (ev_tmp rfl)) ?_
        refine sq_plain rfl rfl rfl (w_lss rfl (ev_tmp rfl) ev_ci) ?_
        refine sq_nil ?_
        refine awp_cond (ev_tmp rfl) ?_ ?_
        · intro h54
          have k54 := of_decide_eq_true h54; try simp only [List.length_map] at k54
          refine awp_skip ?_
          refine awp_seq ?_
          refine awp_block ?_
          refine awp_seq ?_
          refine awp_region ?_
          refine sq_plain rfl rfl rfl (w_loadA 2 rfl (ev_tmp rfl) rfl Try.isAgg57 Try.sizeOf57 rfl) ?_
          refine sq_plain rfl rfl rfl (w_move rfl (ev_tmp rfl)) ?_
          refine sq_plain rfl rfl rfl (w_move rfl (ev_tmp rfl)) ?_
          refine sq_plain rfl rfl rfl (w_call rfl Try.call29 rfl (giveToS_spec _ _ _ (by first | assumption | omega)) (evl_cons (ev_tmp rfl) (evl_cons (ev_tmp rfl) (evl_cons (ev_tmp rfl) evl_nil)))) ?_
          refine sq_plain rfl rfl rfl (w_move rfl (ev_tmp rfl)) ?_
          refine sq_plain rfl rfl rfl (w_extract rfl (ev_tmp rfl) rfl) ?_
          refine sq_plain rfl rfl rfl (w_extract rfl (ev_tmp rfl) rfl) ?_
          refine sq_alloc rfl rfl rfl rfl Try.zeroValue57 rfl ?_
          intro b13
          refine sq_storeB0 0 rfl rfl rfl (ev_tmp rfl) (ev_tmp rfl) (as_agg _) rfl Try.sizeOf57 rfl ?_
          refine sq_plain rfl rfl rfl (w_assign rfl (ev_tmp rfl)) ?_
          refine sq_nil ?_
          refine awp_seq ?_
          refine awp_region ?_
          refine sq_plain rfl rfl rfl (w_move rfl (ev_tmp rfl)) ?_
          refine sq_plain rfl rfl rfl (w_move rfl (ev_tmp rfl)) ?_
          refine sq_grd rfl rfl (guard_t rfl rfl rfl) (fun hc => w_loadA 0 rfl (ev_tmp rfl) rfl Try.isAgg57 Try.sizeOf57 rfl) ?_
          refine sq_grd rfl rfl (guard_t rfl rfl rfl) (fun hc => w_loadA 2 rfl (ev_tmp rfl) rfl Try.isAgg57 Try.sizeOf57 rfl) ?_
          refine sq_grd rfl rfl (guard_t rfl rfl rfl) (fun hc => w_call rfl Try.call180 rfl (l21Same_spec _ _) (evl_cons (ev_whn rfl hc) (evl_cons (ev_whn rfl hc) evl_nil))) ?_
          refine sq_plain rfl rfl rfl (w_and rfl (ev_tmp rfl) (evif_w rfl)) ?_
          refine sq_nil ?_
          refine awp_cond (ev_tmp rfl) ?_ ?_
          · intro h69
            have hfin : isNextS a b = true := by unfold isNextS; rw [hc0, hinv1.2, drop_some hx, anyI]; unfold nextAtS; rw [hinv.2, ra_step (by omega), show hit (giveToS a i k) b = true from h69]; simp
            refine awp_seq ?_
            refine awp_region ?_
            refine sq_plain rfl rfl rfl (w_assign rfl ev_cb) ?_
            refine sq_nil ?_
            refine awp_ret ?_
            exact retR rfl (rv_tmp' rfl (by exact congrArg AV.bool hfin.symm))
          · intro h69
            refine awp_skip ?_
            refine awp_region ?_
            refine sq_plain rfl rfl rfl (w_move rfl (ev_tmp rfl)) ?_
            refine sq_plain rfl rfl rfl (w_addi rfl (ev_tmp rfl) ev_ci (by first | omega | ((try simp only [List.length_map, List.length_take, List.length_cons, List.length_nil, chunks_len, szR] at *); omega) | (have hc2 := hc; simp only [Bool.and_eq_true, Bool.or_eq_true, Bool.or_eq_false_iff, Bool.and_eq_false_iff, Bool.not_eq_true', Bool.not_eq_false', decide_eq_true_eq, decide_eq_false_iff_not, beq_iff_eq, bne_iff_ne, List.length_map, List.length_take] at hc2; omega))) ?_
            refine sq_plain rfl rfl rfl (w_assign rfl (ev_tmp rfl)) ?_
            refine sq_nil ?_
            refine round_end k (k + 1) ?_ ?_ (le_drop 1 ⟨rfl, rfl, rfl, rfl, rfl, rfl, rfl, rfl, rfl, rfl, rfl, rfl, rfl, rfl, rfl, rfl, rfl, rfl, rfl, trivial⟩)
            · exact ⟨by omega, by rw [hinv.2, ra_step (by omega)]; rw [show hit (giveToS a i k) b = false from h69]; rfl⟩
            · omega
        · intro h54
          have k54 := of_decide_eq_false h54; try simp only [List.length_map] at k54
          have hno : nextAtS a b i x = false := by unfold nextAtS; rw [show hit (joinAtS a i) b = false from h52, hinv.2, ra_end (by omega)]; rfl
          refine awp_exit ?_
          refine awp_region ?_
          refine sq_plain rfl rfl rfl (w_addi rfl (ev_tmp rfl) ev_ci (by first | omega | ((try simp only [List.length_map, List.length_take, List.length_cons, List.length_nil, chunks_len, szR] at *); omega) | (have hc2 := hc; simp only [Bool.and_eq_true, Bool.or_eq_true, Bool.or_eq_false_iff, Bool.and_eq_false_iff, Bool.not_eq_true', Bool.not_eq_false', decide_eq_true_eq, decide_eq_false_iff_not, beq_iff_eq, bne_iff_ne, List.length_map, List.length_take] at hc2; omega))) ?_
          refine sq_plain rfl rfl rfl (w_move rfl (ev_tmp rfl)) ?_
          refine sq_nil ?_
          refine round_end i (i + 1) ?_ ?_ (le_drop 1 ⟨rfl, rfl, rfl, rfl, trivial⟩)
          · exact ⟨by omega, by rw [hinv1.2, drop_some hx, anyI, hno]; rfl⟩
          · omega
    · intro h39
      have k39 := of_decide_eq_false h39; try simp only [List.length_map] at k39
      have hge1 : a.Groups.length ≤ i := by omega
      have hfin : isNextS a b = false := by unfold isNextS; rw [hc0, hinv1.2, List.drop_eq_nil_of_le hge1]; rfl
      refine awp_exit ?_
      refine awp_seq ?_
      refine awp_region ?_
      refine sq_plain rfl rfl rfl (w_assign rfl ev_cb) ?_
      refine sq_nil ?_
      refine awp_ret ?_
      exact retR rfl (rv_tmp' rfl (by exact congrArg AV.bool hfin.symm))
theorem isNextR_spec (a b : TPlaces) (ha : a.size ≤ 1048576) (hb : b.size ≤ 1048576) : FSpec Try.prog 53 [AV.agg a.cs, AV.agg b.cs] (AV.tup [AV.bool (isNextR a b).1, AV.bool (isNextR a b).2]) := by
  refine spec_of_awp Try.func53 rfl Try.ntmps53 rfl ?_
  refine awp_seq ?_
  refine awp_region ?_
  refine sq_box rfl rfl rfl rfl (ev_tmp rfl) ?_
  intro b2
  refine sq_box rfl rfl rfl rfl (ev_tmp rfl) ?_
  intro b3
  refine sq_plain rfl rfl rfl (w_assign rfl ev_cb) ?_
  refine sq_plain rfl rfl rfl (w_assign rfl ev_cb) ?_
  refine sq_nil ?_
  refine awp_seq ?_
  refine awp_seq ?_
  refine awp_region ?_
  refine sq_plain rfl rfl rfl (w_loadA 1 rfl (ev_tmp rfl) rfl Try.isAgg57 Try.sizeOf57 rfl) ?_
  refine sq_plain rfl rfl rfl (w_call rfl Try.call34 rfl (goodPlaces_spec _ (by first | assumption | omega)) (evl_cons (ev_tmp rfl) evl_nil)) ?_
  refine sq_plain rfl rfl rfl (w_not rfl (ev_tmp rfl)) ?_
  refine sq_plain rfl rfl rfl (w_move rfl (ev_tmp rfl)) ?_
  refine sq_grd rfl rfl (guard_f rfl rfl rfl) (fun hc => w_loadA 0 rfl (ev_tmp rfl) rfl Try.isAgg57 Try.sizeOf57 rfl) ?_
  refine sq_grd rfl rfl (guard_f rfl rfl rfl) (fun hc => w_call rfl Try.call34 rfl (goodPlaces_spec _ (by first | assumption | omega)) (evl_cons (ev_whn rfl hc) evl_nil)) ?_
  refine sq_grd rfl rfl (guard_f rfl rfl rfl) (fun hc => w_not rfl (ev_whn rfl hc)) ?_
  refine sq_plain rfl rfl rfl (w_or rfl (ev_tmp rfl) (evif_w rfl)) ?_
  refine sq_nil ?_
  refine awp_cond (ev_tmp rfl) ?_ ?_
  · intro h13
    have he : isNextR a b = (false, false) := by unfold isNextR; rw [if_pos h13]
    rw [he]
    refine awp_seq ?_
    refine awp_region ?_
    refine sq_plain rfl rfl rfl (w_assign rfl ev_cb) ?_
    refine sq_plain rfl rfl rfl (w_assign rfl ev_cb) ?_
    refine sq_nil ?_
    refine awp_ret ?_
    exact retN rfl (by decide) (rv_cons (rv_tmp' rfl (by first | rfl | (refine congrArg AV.bool ?_; simp_all; done))) (rv_cons (rv_tmp' rfl (by first | rfl | (refine congrArg AV.bool ?_; simp_all; done))) rv_nil))
  · intro h13
    have he : isNextR a b = (isNext a b, true) := by unfold isNextR; rw [if_neg (by rw [h13]; decide)]
    rw [he]
    refine awp_skip ?_
    refine awp_seq ?_
    refine awp_region ?_
    refine sq_plain rfl rfl rfl (w_loadA 1 rfl (ev_tmp rfl) rfl Try.isAgg57 Try.sizeOf57 rfl) ?_
    refine sq_plain rfl rfl rfl (w_loadA 0 rfl (ev_tmp rfl) rfl Try.isAgg57 Try.sizeOf57 rfl) ?_
    refine sq_plain rfl rfl rfl (w_call rfl Try.call123 rfl (isNext_spec _ _ (by first | assumption | omega) (by first | assumption | omega)) (evl_cons (ev_tmp rfl) (evl_cons (ev_tmp rfl) evl_nil))) ?_
    refine sq_plain rfl rfl rfl (w_assign rfl (ev_tmp rfl)) ?_
    refine sq_plain rfl rfl rfl (w_assign rfl ev_cb) ?_
    refine sq_nil ?_
    refine awp_ret ?_
    exact retN rfl (by decide) (rv_cons (rv_tmp' rfl (by first | rfl | (refine congrArg AV.bool ?_; simp_all; done))) (rv_cons (rv_tmp' rfl (by first | rfl | (refine congrArg AV.bool ?_; simp_all; done))) rv_nil))
theorem isNextRS_spec (a b : TPlaces) (ha : a.size ≤ 1048576) (hb : b.size ≤ 1048576) : FSpec Try.prog 54 [AV.agg a.cs, AV.agg b.cs] (AV.tup [AV.bool (isNextRS a b).1, AV.bool (isNextRS a b).2]) := by
  refine spec_of_awp Try.func54 rfl Try.ntmps54 rfl ?_
  refine awp_seq ?_
  refine awp_region ?_
  refine sq_box rfl rfl rfl rfl (ev_tmp rfl) ?_
  intro b2
  refine sq_box rfl rfl rfl rfl (ev_tmp rfl) ?_
  intro b3
  refine sq_plain rfl rfl rfl (w_assign rfl ev_cb) ?_
  refine sq_plain rfl rfl rfl (w_assign rfl ev_cb) ?_
  refine sq_nil ?_
  refine awp_seq ?_
  refine awp_seq ?_
  refine awp_region ?_
  refine sq_plain rfl rfl rfl (w_loadA 1 rfl (ev_tmp rfl) rfl Try.isAgg57 Try.sizeOf57 rfl) ?_
  refine sq_plain rfl rfl rfl (w_call rfl Try.call35 rfl (goodPlacesS_spec _ (by first | assumption | omega)) (evl_cons (ev_tmp rfl) evl_nil)) ?_
  refine sq_plain rfl rfl rfl (w_not rfl (ev_tmp rfl)) ?_
  refine sq_plain rfl rfl rfl (w_move rfl (ev_tmp rfl)) ?_
  refine sq_grd rfl rfl (guard_f rfl rfl rfl) (fun hc => w_loadA 0 rfl (ev_tmp rfl) rfl Try.isAgg57 Try.sizeOf57 rfl) ?_
  refine sq_grd rfl rfl (guard_f rfl rfl rfl) (fun hc => w_call rfl Try.call35 rfl (goodPlacesS_spec _ (by first | assumption | omega)) (evl_cons (ev_whn rfl hc) evl_nil)) ?_
  refine sq_grd rfl rfl (guard_f rfl rfl rfl) (fun hc => w_not rfl (ev_whn rfl hc)) ?_
  refine sq_plain rfl rfl rfl (w_or rfl (ev_tmp rfl) (evif_w rfl)) ?_
  refine sq_nil ?_
  refine awp_cond (ev_tmp rfl) ?_ ?_
  · intro h13
    have he : isNextRS a b = (false, false) := by unfold isNextRS; rw [if_pos h13]
    rw [he]
    refine awp_seq ?_
    refine awp_region ?_
    refine sq_plain rfl rfl rfl (w_assign rfl ev_cb) ?_
    refine sq_plain rfl rfl rfl (w_assign rfl ev_cb) ?_
    refine sq_nil ?_
    refine awp_ret ?_
    exact retN rfl (by decide) (rv_cons (rv_tmp' rfl (by first | rfl | (refine congrArg AV.bool ?_; simp_all; done))) (rv_cons (rv_tmp' rfl (by first | rfl | (refine congrArg AV.bool ?_; simp_all; done))) rv_nil))
  · intro h13
    have he : isNextRS a b = (isNextS a b, true) := by unfold isNextRS; rw [if_neg (by rw [h13]; decide)]
    rw [he]
    refine awp_skip ?_
    refine awp_seq ?_
    refine awp_region ?_
    refine sq_plain rfl rfl rfl (w_loadA 1 rfl (ev_tmp rfl) rfl Try.isAgg57 Try.sizeOf57 rfl) ?_
    refine sq_plain rfl rfl rfl (w_loadA 0 rfl (ev_tmp rfl) rfl Try.isAgg57 Try.sizeOf57 rfl) ?_
    refine sq_plain rfl rfl rfl (w_call rfl Try.call126 rfl (l21Next_spec _ _ (by first | assumption | omega) (by first | assumption | omega)) (evl_cons (ev_tmp rfl) (evl_cons (ev_tmp rfl) evl_nil))) ?_
    refine sq_plain rfl rfl rfl (w_assign rfl (ev_tmp rfl)) ?_
    refine sq_plain rfl rfl rfl (w_assign rfl ev_cb) ?_
    refine sq_nil ?_
    refine awp_ret ?_
    exact retN rfl (by decide) (rv_cons (rv_tmp' rfl (by first | rfl | (refine congrArg AV.bool ?_; simp_all; done))) (rv_cons (rv_tmp' rfl (by first | rfl | (refine congrArg AV.bool ?_; simp_all; done))) rv_nil))
end Go.Proofs.Ytdbmaekdejhobaa
