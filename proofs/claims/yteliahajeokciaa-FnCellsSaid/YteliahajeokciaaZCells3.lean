/- Texts of the claim, part 3. -/
import Derived.Test.YteliahajeokciaaRows
import Derived.Test.YteliahajeokciaaZCells2

set_option linter.unusedVariables false
set_option linter.unusedSimpArgs false
set_option maxRecDepth 100000
namespace Go.Proofs.Yteliahajeokciaa
open Go Go.AV Go.M
attribute [local irreducible] OpW OpA OpS AWP FSpec ESpec RetOk RvDen Le Ev GuardIs
theorem szVer_spec (a : TVer) (left : Int) (hok : a.ok) (h0 : 0 ≤ left) (h1 : left ≤ 1048576) : FSpec Try.prog 281 [AV.agg a.cs, AV.int left] (AV.int (szR a.size left)) := by
  have oVal := hok; unfold TVer.ok at oVal
  refine spec_of_awp Try.func281 rfl Try.ntmps281 rfl ?_
  refine awp_seq ?_
  refine awp_region ?_
  refine sq_box rfl rfl rfl rfl (ev_tmp rfl) ?_
  intro b2
  refine sq_plain rfl rfl rfl (w_assign rfl ev_ci) ?_
  refine sq_nil ?_
  refine awp_seq ?_
  refine awp_region ?_
  refine sq_plain rfl rfl rfl (w_move rfl (ev_tmp rfl)) ?_
  refine sq_plain rfl rfl rfl (w_fldBn 1 rfl Try.underlying243 rfl Try.sizeOf9 (ev_tmp rfl) rfl) ?_
  refine sq_plain rfl rfl rfl (w_loadB1 0 rfl (ev_tmp rfl) rfl Try.isAgg9 rfl) ?_
  refine sq_plain rfl rfl rfl (w_slen rfl Try.underlying9 (ev_tmp rfl)) ?_
  refine sq_plain rfl rfl rfl (w_subi rfl (ev_tmp rfl) (ev_tmp rfl) (by first | omega | ((try simp only [List.length_map, List.length_take, List.length_cons, List.length_nil, chunks_len, szR] at *); omega) | (have hc2 := hc; simp only [Bool.and_eq_true, Bool.or_eq_true, Bool.or_eq_false_iff, Bool.and_eq_false_iff, Bool.not_eq_true', Bool.not_eq_false', decide_eq_true_eq, decide_eq_false_iff_not, beq_iff_eq, bne_iff_ne, List.length_map, List.length_take] at hc2; omega))) ?_
  refine sq_plain rfl rfl rfl (w_assign rfl (ev_tmp rfl)) ?_
  refine sq_nil ?_
  refine awp_seq ?_
  refine awp_seq ?_
  refine awp_region ?_
  refine sq_plain rfl rfl rfl (w_move rfl (ev_tmp rfl)) ?_
  refine sq_plain rfl rfl rfl (w_lss rfl (ev_tmp rfl) ev_ci) ?_
  refine sq_nil ?_
  refine awp_cond (ev_tmp rfl) ?_ ?_
  · intro h11
    have k11 := of_decide_eq_true h11; try simp only [List.length_map] at k11
    refine awp_seq ?_
    refine awp_region ?_
    refine sq_plain rfl rfl rfl (w_assign rfl ev_ci) ?_
    refine sq_nil ?_
    refine awp_ret ?_
    exact retR rfl (rv_tmp' rfl (by exact congrArg AV.int (by simp only [szR, TVer.size, decide_eq_true_eq, decide_eq_false_iff_not] at *; omega)))
  · intro h11
    have k11 := of_decide_eq_false h11; try simp only [List.length_map] at k11
    refine awp_skip ?_
    refine awp_seq ?_
    refine awp_region ?_
    refine sq_plain rfl rfl rfl (w_move rfl (ev_tmp rfl)) ?_
    refine sq_plain rfl rfl rfl (w_assign rfl (ev_tmp rfl)) ?_
    refine sq_nil ?_
    refine awp_ret ?_
    exact retR rfl (rv_tmp' rfl (by exact congrArg AV.int (by simp only [szR, TVer.size, decide_eq_true_eq, decide_eq_false_iff_not] at *; omega)))
theorem toVer_spec (a : TVer) (hs : a.size ≤ 1048576) : FSpec Try.prog 282 [AV.agg a.cs] (AV.agg a.cs) := by
  unfold TVer.size at hs
  refine spec_of_awp Try.func282 rfl Try.ntmps282 rfl ?_
  refine awp_seq ?_
  refine awp_region ?_
  refine sq_box rfl rfl rfl rfl (ev_tmp rfl) ?_
  intro b1
  refine sq_alloc rfl rfl rfl rfl Try.zeroValue155 rfl ?_
  intro b2
  refine sq_nil ?_
  refine awp_seq ?_
  refine awp_region ?_
  refine sq_alloc rfl rfl rfl rfl Try.zeroValue155 rfl ?_
  intro b3
  refine sq_nil ?_
  refine awp_seq ?_
  refine awp_region ?_
  refine sq_plain rfl rfl rfl (w_fldBn 0 rfl Try.underlying243 rfl Try.sizeOf3 (ev_tmp rfl) rfl) ?_
  refine sq_plain rfl rfl rfl (w_loadB1 2 rfl (ev_tmp rfl) rfl Try.isAgg3 rfl) ?_
  refine sq_plain rfl rfl rfl (w_fldBn 0 rfl Try.underlying155 rfl Try.sizeOf3 (ev_tmp rfl) rfl) ?_
  refine sq_storeB1 0 rfl rfl rfl (ev_tmp rfl) (ev_tmp rfl) (as_ik _ _) rfl Try.sizeOf3 rfl ?_
  refine sq_nil ?_
  refine awp_seq ?_
  refine awp_region ?_
  refine sq_plain rfl rfl rfl (w_fldBn 1 rfl Try.underlying243 rfl Try.sizeOf9 (ev_tmp rfl) rfl) ?_
  refine sq_plain rfl rfl rfl (w_loadB1 2 rfl (ev_tmp rfl) rfl Try.isAgg9 rfl) ?_
  refine sq_plain rfl rfl rfl (w_fldBn 1 rfl Try.underlying155 rfl Try.sizeOf9 (ev_tmp rfl) rfl) ?_
  refine sq_storeB1 0 rfl rfl rfl (ev_tmp rfl) (ev_tmp rfl) (as_str _) rfl Try.sizeOf9 rfl ?_
  refine sq_nil ?_
  refine awp_seq ?_
  refine awp_region ?_
  refine sq_plain rfl rfl rfl (w_fldBn 2 rfl Try.underlying243 rfl Try.sizeOf4 (ev_tmp rfl) rfl) ?_
  refine sq_plain rfl rfl rfl (w_loadB1 2 rfl (ev_tmp rfl) rfl Try.isAgg4 rfl) ?_
  refine sq_plain rfl rfl rfl (w_fldBn 2 rfl Try.underlying155 rfl Try.sizeOf4 (ev_tmp rfl) rfl) ?_
  refine sq_storeB1 0 rfl rfl rfl (ev_tmp rfl) (ev_tmp rfl) (as_bool _) rfl Try.sizeOf4 rfl ?_
  refine sq_nil ?_
  refine awp_seq ?_
  refine awp_region ?_
  refine sq_plain rfl rfl rfl (w_loadA 0 rfl (ev_tmp rfl) rfl Try.isAgg155 Try.sizeOf155 rfl) ?_
  refine sq_storeB0 1 rfl rfl rfl (ev_tmp rfl) (ev_tmp rfl) (as_agg _) rfl Try.sizeOf155 rfl ?_
  refine sq_nil ?_
  refine awp_ret ?_
  exact retR rfl (rv_cell (ys := _) 1 rfl rfl Try.isAgg155 Try.sizeOf155 rfl)
theorem eqVer_spec (a b : TVer) : FSpec Try.prog 283 [AV.agg a.cs, AV.agg b.cs] (AV.bool (decide (a = b))) := by
  refine spec_of_awp Try.func283 rfl Try.ntmps283 rfl ?_
  refine awp_seq ?_
  refine awp_region ?_
  refine sq_box rfl rfl rfl rfl (ev_tmp rfl) ?_
  intro b2
  refine sq_box rfl rfl rfl rfl (ev_tmp rfl) ?_
  intro b3
  refine sq_plain rfl rfl rfl (w_assign rfl ev_cb) ?_
  refine sq_nil ?_
  refine awp_seq ?_
  refine awp_seq ?_
  refine awp_region ?_
  refine sq_plain rfl rfl rfl (w_fldBn 0 rfl Try.underlying155 rfl Try.sizeOf3 (ev_tmp rfl) rfl) ?_
  refine sq_plain rfl rfl rfl (w_loadB1 1 rfl (ev_tmp rfl) rfl Try.isAgg3 rfl) ?_
  refine sq_plain rfl rfl rfl (w_fldBn 0 rfl Try.underlying155 rfl Try.sizeOf3 (ev_tmp rfl) rfl) ?_
  refine sq_plain rfl rfl rfl (w_loadB1 0 rfl (ev_tmp rfl) rfl Try.isAgg3 rfl) ?_
  refine sq_plain rfl rfl rfl (w_neq rfl (ev_tmp rfl) (ev_tmp rfl)) ?_
  refine sq_nil ?_
  refine awp_cond (ev_tmp rfl) ?_ ?_
  · intro h9
    have k9 := ne_of_bne h9; try simp only [List.length_map] at k9
    refine awp_seq ?_
    refine awp_region ?_
    refine sq_plain rfl rfl rfl (w_assign rfl ev_cb) ?_
    refine sq_nil ?_
    refine awp_ret ?_
    exact retR rfl (rv_tmp' rfl (by exact congrArg AV.bool (by cases a; cases b; simp_all)))
  · intro h9
    have k9 := eq_of_bne_false h9; try simp only [List.length_map] at k9
    refine awp_skip ?_
    refine awp_seq ?_
    refine awp_seq ?_
    refine awp_region ?_
    refine sq_plain rfl rfl rfl (w_fldBn 1 rfl Try.underlying155 rfl Try.sizeOf9 (ev_tmp rfl) rfl) ?_
    refine sq_plain rfl rfl rfl (w_loadB1 1 rfl (ev_tmp rfl) rfl Try.isAgg9 rfl) ?_
    refine sq_plain rfl rfl rfl (w_fldBn 1 rfl Try.underlying155 rfl Try.sizeOf9 (ev_tmp rfl) rfl) ?_
    refine sq_plain rfl rfl rfl (w_loadB1 0 rfl (ev_tmp rfl) rfl Try.isAgg9 rfl) ?_
    refine sq_plain rfl rfl rfl (w_sneq rfl (ev_tmp rfl) (ev_tmp rfl)) ?_
    refine sq_nil ?_
    refine awp_cond (ev_tmp rfl) ?_ ?_
    · intro h14
      refine awp_seq ?_
      refine awp_region ?_
      refine sq_plain rfl rfl rfl (w_assign rfl ev_cb) ?_
      refine sq_nil ?_
      refine awp_ret ?_
      exact retR rfl (rv_tmp' rfl (by exact congrArg AV.bool (by cases a; cases b; simp_all)))
    · intro h14
      refine awp_skip ?_
      refine awp_seq ?_
      refine awp_seq ?_
      refine awp_region ?_
      refine sq_plain rfl rfl rfl (w_fldBn 2 rfl Try.underlying155 rfl Try.sizeOf4 (ev_tmp rfl) rfl) ?_
      refine sq_plain rfl rfl rfl (w_loadB1 1 rfl (ev_tmp rfl) rfl Try.isAgg4 rfl) ?_
      refine sq_plain rfl rfl rfl (w_fldBn 2 rfl Try.underlying155 rfl Try.sizeOf4 (ev_tmp rfl) rfl) ?_
      refine sq_plain rfl rfl rfl (w_loadB1 0 rfl (ev_tmp rfl) rfl Try.isAgg4 rfl) ?_
      refine sq_plain rfl rfl rfl (w_bneq rfl Try.underlying4 (ev_tmp rfl) (ev_tmp rfl)) ?_
      refine sq_nil ?_
      refine awp_cond (ev_tmp rfl) ?_ ?_
      · intro h19
        refine awp_seq ?_
        refine awp_region ?_
        refine sq_plain rfl rfl rfl (w_assign rfl ev_cb) ?_
        refine sq_nil ?_
        refine awp_ret ?_
        exact retR rfl (rv_tmp' rfl (by exact congrArg AV.bool (by cases a; cases b; simp_all)))
      · intro h19
        refine awp_skip ?_
        refine awp_seq ?_
        refine awp_region ?_
        refine sq_plain rfl rfl rfl (w_assign rfl ev_cb) ?_
        refine sq_nil ?_
        refine awp_ret ?_
        exact retR rfl (rv_tmp' rfl (by exact congrArg AV.bool (by cases a; cases b; simp_all)))
theorem szVerS_spec (l : List TVer) (left : Int) (hok : (∀ x ∈ l, x.ok)) (h0 : 0 ≤ left) (h1 : left ≤ 1048576) : FSpec Try.prog 245 [AV.list 3 (l.map TVer.cs), AV.int left] (AV.int (szR (sizeL TVer.size l) left)) := by
  refine spec_of_awp Try.func245 rfl Try.ntmps245 rfl ?_
  refine awp_len (t := 0) rfl fun hl => ?_
  try simp only [List.length_map] at hl
  refine awp_seq ?_
  refine awp_region ?_
  refine sq_plain rfl rfl rfl (w_assign rfl ev_ci) ?_
  refine sq_nil ?_
  refine awp_seq ?_
  refine awp_region ?_
  refine sq_plain rfl rfl rfl (w_move rfl (ev_tmp rfl)) ?_
  refine sq_plain rfl rfl rfl (w_move rfl (ev_tmp rfl)) ?_
  refine sq_plain rfl rfl rfl (w_llen rfl Try.underlying173 (ev_tmp rfl)) ?_
  refine sq_plain rfl rfl rfl (w_subi rfl (ev_tmp rfl) (ev_tmp rfl) (by first | omega | ((try simp only [List.length_map, List.length_take, List.length_cons, List.length_nil, chunks_len, szR] at *); omega) | (have hc2 := hc; simp only [Bool.and_eq_true, Bool.or_eq_true, Bool.or_eq_false_iff, Bool.and_eq_false_iff, Bool.not_eq_true', Bool.not_eq_false', decide_eq_true_eq, decide_eq_false_iff_not, beq_iff_eq, bne_iff_ne, List.length_map, List.length_take] at hc2; omega))) ?_
  refine sq_plain rfl rfl rfl (w_assign rfl (ev_tmp rfl)) ?_
  refine sq_nil ?_
  refine awp_seq ?_
  refine awp_seq ?_
  refine awp_region ?_
  refine sq_plain rfl rfl rfl (w_move rfl (ev_tmp rfl)) ?_
  refine sq_plain rfl rfl rfl (w_lss rfl (ev_tmp rfl) ev_ci) ?_
  refine sq_nil ?_
  refine awp_cond (ev_tmp rfl) ?_ ?_
  · intro h11
    have k11 := of_decide_eq_true h11; try simp only [List.length_map] at k11
    refine awp_seq ?_
    refine awp_region ?_
    refine sq_plain rfl rfl rfl (w_assign rfl ev_ci) ?_
    refine sq_nil ?_
    refine awp_ret ?_
    exact retR rfl (rv_tmp' rfl (by exact congrArg AV.int (by simp only [szR, sizeL, List.length_map, decide_eq_true_eq, decide_eq_false_iff_not] at *; omega)))
  · intro h11
    have k11 := of_decide_eq_false h11; try simp only [List.length_map] at k11
    refine awp_skip ?_
    refine awp_seq ?_
    refine awp_seq ?_
    refine awp_region ?_
    refine sq_plain rfl rfl rfl (w_assign rfl ev_ci) ?_
    refine sq_nil ?_
    refine awp_block ?_
    refine awp_loop_i2 [(0, _)] _ (fun (i : Nat) (b : Int) => i ≤ l.length ∧ b = left - l.length - (((l.take i).map TVer.size).sum : Nat) ∧ 0 ≤ b) (fun (i : Nat) (b : Int) => []) (fun (i : Nat) (b : Int) => [(1, AV.int b), (5, AV.int i)]) (fun (i : Nat) (b : Int) => l.length - i) (0) (left - ((l.map fun x => TVer.cs x).length : Int)) ?_ (le_env ⟨rfl, rfl, rfl, trivial⟩) ?_
    · exact ⟨Nat.zero_le _, by simp, by simp only [List.length_map]; omega⟩
    intro i b hinv
    refine awp_seq ?_
    refine awp_seq ?_
    refine awp_region ?_
    refine sq_plain rfl rfl rfl (w_move rfl (ev_tmp rfl)) ?_
    refine sq_plain rfl rfl rfl (w_move rfl (ev_tmp rfl)) ?_
    refine sq_plain rfl rfl rfl (w_llen rfl Try.underlying173 (ev_tmp rfl)) ?_
    refine sq_plain rfl rfl rfl (w_lss rfl (ev_tmp rfl) (ev_tmp rfl)) ?_
    refine sq_nil ?_
    refine awp_cond (ev_tmp rfl) ?_ ?_
    · intro h15
      have k15 := of_decide_eq_true h15; try simp only [List.length_map] at k15
      have hlt : i < l.length := by omega
      obtain ⟨x, hx⟩ := get_some hlt
      have e2 := sum_le TVer.size l i x hx
      have hokx := hok x (List.mem_of_getElem? hx)
      refine awp_skip ?_
      refine awp_seq ?_
      refine awp_block ?_
      refine awp_seq ?_
      refine awp_region ?_
      refine sq_plain rfl rfl rfl (w_move rfl (ev_tmp rfl)) ?_
      refine sq_plain rfl rfl rfl (w_move rfl (ev_tmp rfl)) ?_
      refine sq_plain rfl rfl rfl (w_idx rfl Try.underlying173 Try.sizeOf243 (ev_tmp rfl) (ev_tmp rfl) (by omega) (by simp only [Int.toNat_natCast, List.getElem?_map, hx, Option.map_some]; try rfl)) ?_
      refine sq_plain rfl rfl rfl (w_loadE rfl (ev_tmp rfl) Try.isAgg243 Try.sizeOf243) ?_
      refine sq_plain rfl rfl rfl (w_move rfl (ev_tmp rfl)) ?_
      refine sq_plain rfl rfl rfl (w_call rfl Try.call281 rfl (szVer_spec _ _ (by assumption) (by first | omega | ((try simp only [List.length_map, List.length_take, List.length_cons, List.length_nil, chunks_len, szR] at *); omega) | (have hc2 := hc; simp only [Bool.and_eq_true, Bool.or_eq_true, Bool.or_eq_false_iff, Bool.and_eq_false_iff, Bool.not_eq_true', Bool.not_eq_false', decide_eq_true_eq, decide_eq_false_iff_not, beq_iff_eq, bne_iff_ne, List.length_map, List.length_take] at hc2; omega)) (by first | omega | ((try simp only [List.length_map, List.length_take, List.length_cons, List.length_nil, chunks_len, szR] at *); omega) | (have hc2 := hc; simp only [Bool.and_eq_true, Bool.or_eq_true, Bool.or_eq_false_iff, Bool.and_eq_false_iff, Bool.not_eq_true', Bool.not_eq_false', decide_eq_true_eq, decide_eq_false_iff_not, beq_iff_eq, bne_iff_ne, List.length_map, List.length_take] at hc2; omega))) (evl_cons (ev_tmp rfl) (evl_cons (ev_tmp rfl) evl_nil))) ?_
      refine sq_plain rfl rfl rfl (w_assign rfl (ev_tmp rfl)) ?_
      refine sq_nil ?_
      refine awp_seq ?_
      refine awp_region ?_
      refine sq_plain rfl rfl rfl (w_move rfl (ev_tmp rfl)) ?_
      refine sq_plain rfl rfl rfl (w_lss rfl (ev_tmp rfl) ev_ci) ?_
      refine sq_nil ?_
      refine awp_cond (ev_tmp rfl) ?_ ?_
      · intro h25
        have k25 := of_decide_eq_true h25; try simp only [List.length_map] at k25
        refine awp_seq ?_
        refine awp_region ?_
        refine sq_plain rfl rfl rfl (w_assign rfl ev_ci) ?_
        refine sq_nil ?_
        refine awp_ret ?_
        exact retR rfl (rv_tmp' rfl (by exact congrArg AV.int (by simp only [szR, sizeL, List.length_map, decide_eq_true_eq, decide_eq_false_iff_not] at *; omega)))
      · intro h25
        have k25 := of_decide_eq_false h25; try simp only [List.length_map] at k25
        refine awp_skip ?_
        refine awp_region ?_
        refine sq_plain rfl rfl rfl (w_move rfl (ev_tmp rfl)) ?_
        refine sq_plain rfl rfl rfl (w_addi rfl (ev_tmp rfl) ev_ci (by first | omega | ((try simp only [List.length_map, List.length_take, List.length_cons, List.length_nil, chunks_len, szR] at *); omega) | (have hc2 := hc; simp only [Bool.and_eq_true, Bool.or_eq_true, Bool.or_eq_false_iff, Bool.and_eq_false_iff, Bool.not_eq_true', Bool.not_eq_false', decide_eq_true_eq, decide_eq_false_iff_not, beq_iff_eq, bne_iff_ne, List.length_map, List.length_take] at hc2; omega))) ?_
        refine sq_plain rfl rfl rfl (w_assign rfl (ev_tmp rfl)) ?_
        refine sq_nil ?_
        refine round_end2 i b (i + 1) ((szR (TVer.size x) b)) ?_ ?_ (le_env ⟨rfl, rfl, rfl, trivial⟩)
        · exact ⟨by omega, by have e1 := sum_take TVer.size l i x hx; simp only [szR, decide_eq_false_iff_not] at *; omega, by omega⟩
        · omega
    · intro h15
      have k15 := of_decide_eq_false h15; try simp only [List.length_map] at k15
      have hge : l.length ≤ i := by omega
      have e3 : ((l.take i).map TVer.size).sum = (l.map TVer.size).sum := by rw [List.take_of_length_le hge]
      refine awp_exit ?_
      refine awp_seq ?_
      refine awp_region ?_
      refine sq_plain rfl rfl rfl (w_move rfl (ev_tmp rfl)) ?_
      refine sq_plain rfl rfl rfl (w_assign rfl (ev_tmp rfl)) ?_
      refine sq_nil ?_
      refine awp_ret ?_
      exact retR rfl (rv_tmp' rfl (by exact congrArg AV.int (by simp only [szR, sizeL, List.length_map, decide_eq_true_eq, decide_eq_false_iff_not] at *; omega)))
theorem toVerS_spec (l : List TVer) (hs : sizeL TVer.size l ≤ 1048576) : FSpec Try.prog 248 [AV.list 3 (l.map TVer.cs)] (AV.list 3 (l.map TVer.cs)) := by
  have hsl : l.length ≤ 1048576 := Nat.le_trans sizeL_len hs
  refine spec_of_awp Try.func248 rfl Try.ntmps248 rfl ?_
  refine awp_seq ?_
  refine awp_region ?_
  refine sq_plain rfl rfl rfl (w_assign rfl (ev_cnil (sz := 3))) ?_
  refine sq_nil ?_
  refine awp_seq ?_
  refine awp_region ?_
  refine sq_plain rfl rfl rfl (w_move rfl (ev_tmp rfl)) ?_
  refine sq_plain rfl rfl rfl (w_llen rfl Try.underlying173 (ev_tmp rfl)) ?_
  refine sq_make (by' := 32) rfl rfl rfl rfl Try.underlying151 Try.type155 rfl rfl rfl rfl rfl rfl (ev_tmp rfl) (ev_tmp rfl) (by simp only [List.length_map]; omega) (by simp only [List.length_map]; omega) ?_
  intro v7
  refine sq_plain rfl rfl rfl (w_assign rfl (ev_tmp rfl)) ?_
  refine sq_nil ?_
  refine awp_seq ?_
  refine awp_seq ?_
  refine awp_region ?_
  refine sq_plain rfl rfl rfl (w_assign rfl ev_ci) ?_
  refine sq_nil ?_
  refine awp_block ?_
  refine awp_loop_i [(0, _), (2, _), (3, _)] _ (fun (i : Nat) => i ≤ l.length) (fun (i : Nat) => [.arr v7 155 3 ((l.take i).map TVer.cs ++ List.replicate (l.length - i) [AV.int 0, AV.str [], AV.bool false])]) (fun (i : Nat) => [(4, AV.int i)]) (fun (i : Nat) => l.length - i) (0) ?_ (le_eq (by simp only [List.length_map]; rfl) ⟨rfl, rfl, rfl, rfl, trivial⟩) ?_
  · exact Nat.zero_le _
  intro i hinv
  refine awp_seq ?_
  refine awp_seq ?_
  refine awp_region ?_
  refine sq_plain rfl rfl rfl (w_move rfl (ev_tmp rfl)) ?_
  refine sq_plain rfl rfl rfl (w_move rfl (ev_tmp rfl)) ?_
  refine sq_plain rfl rfl rfl (w_llen rfl Try.underlying173 (ev_tmp rfl)) ?_
  refine sq_plain rfl rfl rfl (w_lss rfl (ev_tmp rfl) (ev_tmp rfl)) ?_
  refine sq_nil ?_
  refine awp_cond (ev_tmp rfl) ?_ ?_
  · intro h11
    have k11 := of_decide_eq_true h11; try simp only [List.length_map] at k11
    have hlt : i < l.length := by omega
    obtain ⟨x, hx⟩ := get_some hlt
    have hsx : TVer.size x ≤ 1048576 := Nat.le_trans (sizeL_get hx) hs
    refine awp_skip ?_
    refine awp_seq ?_
    refine awp_block ?_
    refine awp_region ?_
    refine sq_plain rfl rfl rfl (w_move rfl (ev_tmp rfl)) ?_
    refine sq_plain rfl rfl rfl (w_move rfl (ev_tmp rfl)) ?_
    refine sq_plain rfl rfl rfl (w_move rfl (ev_tmp rfl)) ?_
    refine sq_plain rfl rfl rfl (w_move rfl (ev_tmp rfl)) ?_
    refine sq_plain rfl rfl rfl (w_idx rfl Try.underlying173 Try.sizeOf243 (ev_tmp rfl) (ev_tmp rfl) (by omega) (by simp only [Int.toNat_natCast, List.getElem?_map, hx, Option.map_some]; try rfl)) ?_
    refine sq_plain rfl rfl rfl (w_loadE rfl (ev_tmp rfl) Try.isAgg243 Try.sizeOf243) ?_
    refine sq_plain rfl rfl rfl (w_call rfl Try.call282 rfl (toVer_spec _ (by first | assumption | omega | (simp only [] at *; omega))) (evl_cons (ev_tmp rfl) evl_nil)) ?_
    refine sq_plain rfl rfl rfl (w_aidx 0 rfl Try.underlying151 Try.sizeOf155 (ev_tmp rfl) rfl (ev_tmp rfl) (by omega) (by rw [fill_len hinv]; omega)) ?_
    refine sq_storeA 0 rfl rfl rfl (ev_tmp rfl) (ev_tmp rfl) (as_agg _) rfl Try.sizeOf155 rfl (by rw [fill_len hinv]; omega) ?_
    refine sq_nil ?_
    refine awp_region ?_
    refine sq_plain rfl rfl rfl (w_move rfl (ev_tmp rfl)) ?_
    refine sq_plain rfl rfl rfl (w_addi rfl (ev_tmp rfl) ev_ci (by first | omega | ((try simp only [List.length_map, List.length_take, List.length_cons, List.length_nil, chunks_len, szR] at *); omega) | (have hc2 := hc; simp only [Bool.and_eq_true, Bool.or_eq_true, Bool.or_eq_false_iff, Bool.and_eq_false_iff, Bool.not_eq_true', Bool.not_eq_false', decide_eq_true_eq, decide_eq_false_iff_not, beq_iff_eq, bne_iff_ne, List.length_map, List.length_take] at hc2; omega))) ?_
    refine sq_plain rfl rfl rfl (w_assign rfl (ev_tmp rfl)) ?_
    refine sq_nil ?_
    refine round_end i (i + 1) ?_ ?_ (le_eq (by exact congrArg (fun z => [Own.arr v7 155 3 z]) (fill_step hx)) ⟨rfl, rfl, rfl, rfl, trivial⟩)
    · omega
    · omega
  · intro h11
    have k11 := of_decide_eq_false h11; try simp only [List.length_map] at k11
    have hge : l.length ≤ i := by omega
    rw [fill_done hge]
    refine awp_exit ?_
    refine awp_seq ?_
    refine awp_region ?_
    refine sq_plain rfl rfl rfl (w_move rfl (ev_tmp rfl)) ?_
    refine sq_plain rfl rfl rfl (w_assign rfl (ev_tmp rfl)) ?_
    refine sq_nil ?_
    refine awp_ret ?_
    refine ret_seal 0 2 rfl rfl ?_
    exact retR rfl (rv_tmp' rfl (by first | rfl | (refine congrArg AV.bool ?_; simp_all; done)))
theorem eqVerS_spec (a b : List TVer) : FSpec Try.prog 250 [AV.list 3 (a.map TVer.cs), AV.list 3 (b.map TVer.cs)] (AV.bool (decide (a = b))) := by
  refine spec_of_awp Try.func250 rfl Try.ntmps250 rfl ?_
  refine awp_len (t := 0) rfl fun hl => ?_
  try simp only [List.length_map] at hl
  refine awp_seq ?_
  refine awp_region ?_
  refine sq_plain rfl rfl rfl (w_assign rfl ev_cb) ?_
  refine sq_nil ?_
  refine awp_seq ?_
  refine awp_seq ?_
  refine awp_region ?_
  refine sq_plain rfl rfl rfl (w_move rfl (ev_tmp rfl)) ?_
  refine sq_plain rfl rfl rfl (w_llen rfl Try.underlying151 (ev_tmp rfl)) ?_
  refine sq_plain rfl rfl rfl (w_move rfl (ev_tmp rfl)) ?_
  refine sq_plain rfl rfl rfl (w_llen rfl Try.underlying151 (ev_tmp rfl)) ?_
  refine sq_plain rfl rfl rfl (w_neq rfl (ev_tmp rfl) (ev_tmp rfl)) ?_
  refine sq_nil ?_
  refine awp_cond (ev_tmp rfl) ?_ ?_
  · intro h10
    have k10 := ne_of_bne h10; try simp only [List.length_map] at k10
    have hab : a ≠ b := by intro hc; subst hc; exact k10 rfl
    refine awp_seq ?_
    refine awp_region ?_
    refine sq_plain rfl rfl rfl (w_assign rfl ev_cb) ?_
    refine sq_nil ?_
    refine awp_ret ?_
    exact retR rfl (rv_tmp' rfl (by exact congrArg AV.bool (by simp [hab])))
  · intro h10
    have k10 := eq_of_bne_false h10; try simp only [List.length_map] at k10
    have heq : a.length = b.length := by omega
    refine awp_skip ?_
    refine awp_seq ?_
    refine awp_seq ?_
    refine awp_region ?_
    refine sq_plain rfl rfl rfl (w_assign rfl ev_ci) ?_
    refine sq_nil ?_
    refine awp_block ?_
    refine awp_loop_i [(0, _), (1, _)] _ (fun (i : Nat) => i ≤ a.length ∧ a.take i = b.take i) (fun (i : Nat) => []) (fun (i : Nat) => [(5, AV.int i)]) (fun (i : Nat) => a.length - i) (0) ?_ (le_env ⟨rfl, rfl, rfl, trivial⟩) ?_
    · exact ⟨Nat.zero_le _, rfl⟩
    intro i hinv
    refine awp_seq ?_
    refine awp_seq ?_
    refine awp_region ?_
    refine sq_plain rfl rfl rfl (w_move rfl (ev_tmp rfl)) ?_
    refine sq_plain rfl rfl rfl (w_move rfl (ev_tmp rfl)) ?_
    refine sq_plain rfl rfl rfl (w_llen rfl Try.underlying151 (ev_tmp rfl)) ?_
    refine sq_plain rfl rfl rfl (w_lss rfl (ev_tmp rfl) (ev_tmp rfl)) ?_
    refine sq_nil ?_
    refine awp_cond (ev_tmp rfl) ?_ ?_
    · intro h14
      have k14 := of_decide_eq_true h14; try simp only [List.length_map] at k14
      have hlt : i < a.length := by omega
      obtain ⟨x, hx⟩ := get_some hlt
      obtain ⟨y, hy⟩ := get_some (show i < b.length by omega)
      refine awp_skip ?_
      refine awp_seq ?_
      refine awp_block ?_
      refine awp_seq ?_
      refine awp_region_any (by kernel_rfl) (by kernel_rfl) rfl ?_
      refine ch_plain rfl rfl (w_move rfl (ev_tmp rfl)) ?_
      refine ch_plain rfl rfl (w_move rfl (ev_tmp rfl)) ?_
      refine ch_plain rfl rfl (w_idx rfl Try.underlying151 Try.sizeOf155 (ev_tmp rfl) (ev_tmp rfl) (by omega) (by simp only [Int.toNat_natCast, List.getElem?_map, hx, Option.map_some]; try rfl)) ?_
      refine ch_plain rfl rfl (w_loadE rfl (ev_tmp rfl) Try.isAgg155 Try.sizeOf155) ?_
      refine ch_plain rfl rfl (w_move rfl (ev_tmp rfl)) ?_
      refine ch_plain rfl rfl (w_move rfl (ev_tmp rfl)) ?_
      refine ch_plain rfl rfl (w_idx rfl Try.underlying151 Try.sizeOf155 (ev_tmp rfl) (ev_tmp rfl) (by omega) (by simp only [Int.toNat_natCast, List.getElem?_map, hy, Option.map_some]; try rfl)) ?_
      refine ch_plain rfl rfl (w_loadE rfl (ev_tmp rfl) Try.isAgg155 Try.sizeOf155) ?_
      refine ch_plain rfl rfl (w_call rfl Try.call283 rfl (eqVer_spec _ _) (evl_cons (ev_tmp rfl) (evl_cons (ev_tmp rfl) evl_nil))) ?_
      refine ch_plain rfl rfl (w_not rfl (ev_tmp rfl)) ?_
      refine ch_nil ?_
      refine awp_cond (ev_tmp rfl) ?_ ?_
      · intro h26
        have hab : a ≠ b := by intro hc; subst hc; rw [hx] at hy; injection hy with hy; subst hy; simp at h26
        refine awp_seq ?_
        refine awp_region ?_
        refine sq_plain rfl rfl rfl (w_assign rfl ev_cb) ?_
        refine sq_nil ?_
        refine awp_ret ?_
        exact retR rfl (rv_tmp' rfl (by exact congrArg AV.bool (by simp [hab])))
      · intro h26
        refine awp_skip ?_
        refine awp_region ?_
        refine sq_plain rfl rfl rfl (w_move rfl (ev_tmp rfl)) ?_
        refine sq_plain rfl rfl rfl (w_addi rfl (ev_tmp rfl) ev_ci (by first | omega | ((try simp only [List.length_map, List.length_take, List.length_cons, List.length_nil, chunks_len, szR] at *); omega) | (have hc2 := hc; simp only [Bool.and_eq_true, Bool.or_eq_true, Bool.or_eq_false_iff, Bool.and_eq_false_iff, Bool.not_eq_true', Bool.not_eq_false', decide_eq_true_eq, decide_eq_false_iff_not, beq_iff_eq, bne_iff_ne, List.length_map, List.length_take] at hc2; omega))) ?_
        refine sq_plain rfl rfl rfl (w_assign rfl (ev_tmp rfl)) ?_
        refine sq_nil ?_
        refine round_end i (i + 1) ?_ ?_ (le_env ⟨rfl, rfl, rfl, trivial⟩)
        · exact ⟨by omega, take_eq_succ hinv.2 hx (by rw [hy]; congr 1; simp_all)⟩
        · omega
    · intro h14
      have k14 := of_decide_eq_false h14; try simp only [List.length_map] at k14
      have hge : a.length ≤ i := by omega
      have hab : a = b := take_eq_of heq hinv.2 hge
      refine awp_exit ?_
      refine awp_seq ?_
      refine awp_region ?_
      refine sq_plain rfl rfl rfl (w_assign rfl ev_cb) ?_
      refine sq_nil ?_
      refine awp_ret ?_
      exact retR rfl (rv_tmp' rfl (by exact congrArg AV.bool (by simp [hab])))
theorem szCell_spec (a : TCell) (left : Int) (hok : a.ok) (h0 : 0 ≤ left) (h1 : left ≤ 1048576) : FSpec Try.prog 174 [AV.agg a.cs, AV.int left] (AV.int (szR a.size left)) := by
  obtain ⟨oKey, oVers⟩ := hok
  refine spec_of_awp Try.func174 rfl Try.ntmps174 rfl ?_
  refine awp_seq ?_
  refine awp_region ?_
  refine sq_box rfl rfl rfl rfl (ev_tmp rfl) ?_
  intro b2
  refine sq_plain rfl rfl rfl (w_assign rfl ev_ci) ?_
  refine sq_nil ?_
  refine awp_seq ?_
  refine awp_region ?_
  refine sq_plain rfl rfl rfl (w_move rfl (ev_tmp rfl)) ?_
  refine sq_plain rfl rfl rfl (w_fldBn 0 rfl Try.underlying175 rfl Try.sizeOf9 (ev_tmp rfl) rfl) ?_
  refine sq_plain rfl rfl rfl (w_loadB1 0 rfl (ev_tmp rfl) rfl Try.isAgg9 rfl) ?_
  refine sq_plain rfl rfl rfl (w_slen rfl Try.underlying9 (ev_tmp rfl)) ?_
  refine sq_plain rfl rfl rfl (w_subi rfl (ev_tmp rfl) (ev_tmp rfl) (by first | omega | ((try simp only [List.length_map, List.length_take, List.length_cons, List.length_nil, chunks_len, szR] at *); omega) | (have hc2 := hc; simp only [Bool.and_eq_true, Bool.or_eq_true, Bool.or_eq_false_iff, Bool.and_eq_false_iff, Bool.not_eq_true', Bool.not_eq_false', decide_eq_true_eq, decide_eq_false_iff_not, beq_iff_eq, bne_iff_ne, List.length_map, List.length_take] at hc2; omega))) ?_
  refine sq_plain rfl rfl rfl (w_assign rfl (ev_tmp rfl)) ?_
  refine sq_nil ?_
  refine awp_seq ?_
  refine awp_seq ?_
  refine awp_region ?_
  refine sq_plain rfl rfl rfl (w_move rfl (ev_tmp rfl)) ?_
  refine sq_plain rfl rfl rfl (w_lss rfl (ev_tmp rfl) ev_ci) ?_
  refine sq_nil ?_
  refine awp_cond (ev_tmp rfl) ?_ ?_
  · intro h11
    have k11 := of_decide_eq_true h11; try simp only [List.length_map] at k11
    refine awp_seq ?_
    refine awp_region ?_
    refine sq_plain rfl rfl rfl (w_assign rfl ev_ci) ?_
    refine sq_nil ?_
    refine awp_ret ?_
    exact retR rfl (rv_tmp' rfl (by exact congrArg AV.int (by simp only [szR, TCell.size, decide_eq_true_eq, decide_eq_false_iff_not] at *; omega)))
  · intro h11
    have k11 := of_decide_eq_false h11; try simp only [List.length_map] at k11
    refine awp_skip ?_
    refine awp_seq ?_
    refine awp_region ?_
    refine sq_plain rfl rfl rfl (w_fldBn 1 rfl Try.underlying175 rfl Try.sizeOf173 (ev_tmp rfl) rfl) ?_
    refine sq_plain rfl rfl rfl (w_loadB1 0 rfl (ev_tmp rfl) rfl Try.isAgg173 rfl) ?_
    refine sq_plain rfl rfl rfl (w_move rfl (ev_tmp rfl)) ?_
    refine sq_plain rfl rfl rfl (w_call rfl Try.call245 rfl (szVerS_spec _ _ (by first | assumption | trivial) (by first | omega | ((try simp only [List.length_map, List.length_take, List.length_cons, List.length_nil, chunks_len, szR] at *); omega) | (have hc2 := hc; simp only [Bool.and_eq_true, Bool.or_eq_true, Bool.or_eq_false_iff, Bool.and_eq_false_iff, Bool.not_eq_true', Bool.not_eq_false', decide_eq_true_eq, decide_eq_false_iff_not, beq_iff_eq, bne_iff_ne, List.length_map, List.length_take] at hc2; omega)) (by first | omega | ((try simp only [List.length_map, List.length_take, List.length_cons, List.length_nil, chunks_len, szR] at *); omega) | (have hc2 := hc; simp only [Bool.and_eq_true, Bool.or_eq_true, Bool.or_eq_false_iff, Bool.and_eq_false_iff, Bool.not_eq_true', Bool.not_eq_false', decide_eq_true_eq, decide_eq_false_iff_not, beq_iff_eq, bne_iff_ne, List.length_map, List.length_take] at hc2; omega))) (evl_cons (ev_tmp rfl) (evl_cons (ev_tmp rfl) evl_nil))) ?_
    refine sq_plain rfl rfl rfl (w_assign rfl (ev_tmp rfl)) ?_
    refine sq_nil ?_
    refine awp_seq ?_
    refine awp_seq ?_
    refine awp_region ?_
    refine sq_plain rfl rfl rfl (w_move rfl (ev_tmp rfl)) ?_
    refine sq_plain rfl rfl rfl (w_lss rfl (ev_tmp rfl) ev_ci) ?_
    refine sq_nil ?_
    refine awp_cond (ev_tmp rfl) ?_ ?_
    · intro h17
      have k17 := of_decide_eq_true h17; try simp only [List.length_map] at k17
      refine awp_seq ?_
      refine awp_region ?_
      refine sq_plain rfl rfl rfl (w_assign rfl ev_ci) ?_
      refine sq_nil ?_
      refine awp_ret ?_
      exact retR rfl (rv_tmp' rfl (by exact congrArg AV.int (by simp only [szR, TCell.size, decide_eq_true_eq, decide_eq_false_iff_not] at *; omega)))
    · intro h17
      have k17 := of_decide_eq_false h17; try simp only [List.length_map] at k17
      refine awp_skip ?_
      refine awp_seq ?_
      refine awp_region ?_
      refine sq_plain rfl rfl rfl (w_move rfl (ev_tmp rfl)) ?_
      refine sq_plain rfl rfl rfl (w_assign rfl (ev_tmp rfl)) ?_
      refine sq_nil ?_
      refine awp_ret ?_
      exact retR rfl (rv_tmp' rfl (by exact congrArg AV.int (by simp only [szR, TCell.size, decide_eq_true_eq, decide_eq_false_iff_not] at *; omega)))
theorem toCell_spec (a : TCell) (hs : a.size ≤ 1048576) : FSpec Try.prog 177 [AV.agg a.cs] (AV.agg a.cs) := by
  unfold TCell.size at hs
  refine spec_of_awp Try.func177 rfl Try.ntmps177 rfl ?_
  refine awp_seq ?_
  refine awp_region ?_
  refine sq_box rfl rfl rfl rfl (ev_tmp rfl) ?_
  intro b1
  refine sq_alloc rfl rfl rfl rfl Try.zeroValue153 rfl ?_
  intro b2
  refine sq_nil ?_
  refine awp_seq ?_
  refine awp_region ?_
  refine sq_alloc rfl rfl rfl rfl Try.zeroValue153 rfl ?_
  intro b3
  refine sq_nil ?_
  refine awp_seq ?_
  refine awp_region ?_
  refine sq_plain rfl rfl rfl (w_fldBn 0 rfl Try.underlying175 rfl Try.sizeOf9 (ev_tmp rfl) rfl) ?_
  refine sq_plain rfl rfl rfl (w_loadB1 2 rfl (ev_tmp rfl) rfl Try.isAgg9 rfl) ?_
  refine sq_plain rfl rfl rfl (w_fldBn 0 rfl Try.underlying153 rfl Try.sizeOf9 (ev_tmp rfl) rfl) ?_
  refine sq_storeB1 0 rfl rfl rfl (ev_tmp rfl) (ev_tmp rfl) (as_str _) rfl Try.sizeOf9 rfl ?_
  refine sq_nil ?_
  refine awp_seq ?_
  refine awp_region ?_
  refine sq_plain rfl rfl rfl (w_fldBn 1 rfl Try.underlying175 rfl Try.sizeOf173 (ev_tmp rfl) rfl) ?_
  refine sq_plain rfl rfl rfl (w_loadB1 2 rfl (ev_tmp rfl) rfl Try.isAgg173 rfl) ?_
  refine sq_plain rfl rfl rfl (w_call rfl Try.call248 rfl (toVerS_spec _ (by first | assumption | omega)) (evl_cons (ev_tmp rfl) evl_nil)) ?_
  refine sq_plain rfl rfl rfl (w_fldBn 1 rfl Try.underlying153 rfl Try.sizeOf151 (ev_tmp rfl) rfl) ?_
  refine sq_storeB1 0 rfl rfl rfl (ev_tmp rfl) (ev_tmp rfl) (as_list _ _) rfl Try.sizeOf151 rfl ?_
  refine sq_nil ?_
  refine awp_seq ?_
  refine awp_region ?_
  refine sq_plain rfl rfl rfl (w_loadA 0 rfl (ev_tmp rfl) rfl Try.isAgg153 Try.sizeOf153 rfl) ?_
  refine sq_storeB0 1 rfl rfl rfl (ev_tmp rfl) (ev_tmp rfl) (as_agg _) rfl Try.sizeOf153 rfl ?_
  refine sq_nil ?_
  refine awp_ret ?_
  exact retR rfl (rv_cell (ys := _) 1 rfl rfl Try.isAgg153 Try.sizeOf153 rfl)
theorem eqCell_spec (a b : TCell) : FSpec Try.prog 181 [AV.agg a.cs, AV.agg b.cs] (AV.bool (decide (a = b))) := by
  refine spec_of_awp Try.func181 rfl Try.ntmps181 rfl ?_
  refine awp_seq ?_
  refine awp_region ?_
  refine sq_box rfl rfl rfl rfl (ev_tmp rfl) ?_
  intro b2
  refine sq_box rfl rfl rfl rfl (ev_tmp rfl) ?_
  intro b3
  refine sq_plain rfl rfl rfl (w_assign rfl ev_cb) ?_
  refine sq_nil ?_
  refine awp_seq ?_
  refine awp_seq ?_
  refine awp_region ?_
  refine sq_plain rfl rfl rfl (w_fldBn 0 rfl Try.underlying153 rfl Try.sizeOf9 (ev_tmp rfl) rfl) ?_
  refine sq_plain rfl rfl rfl (w_loadB1 1 rfl (ev_tmp rfl) rfl Try.isAgg9 rfl) ?_
  refine sq_plain rfl rfl rfl (w_fldBn 0 rfl Try.underlying153 rfl Try.sizeOf9 (ev_tmp rfl) rfl) ?_
  refine sq_plain rfl rfl rfl (w_loadB1 0 rfl (ev_tmp rfl) rfl Try.isAgg9 rfl) ?_
  refine sq_plain rfl rfl rfl (w_sneq rfl (ev_tmp rfl) (ev_tmp rfl)) ?_
  refine sq_nil ?_
  refine awp_cond (ev_tmp rfl) ?_ ?_
  · intro h9
    refine awp_seq ?_
    refine awp_region ?_
    refine sq_plain rfl rfl rfl (w_assign rfl ev_cb) ?_
    refine sq_nil ?_
    refine awp_ret ?_
    exact retR rfl (rv_tmp' rfl (by exact congrArg AV.bool (by cases a; cases b; simp_all)))
  · intro h9
    refine awp_skip ?_
    refine awp_seq ?_
    refine awp_seq ?_
    refine awp_region ?_
    refine sq_plain rfl rfl rfl (w_fldBn 1 rfl Try.underlying153 rfl Try.sizeOf151 (ev_tmp rfl) rfl) ?_
    refine sq_plain rfl rfl rfl (w_loadB1 1 rfl (ev_tmp rfl) rfl Try.isAgg151 rfl) ?_
    refine sq_plain rfl rfl rfl (w_fldBn 1 rfl Try.underlying153 rfl Try.sizeOf151 (ev_tmp rfl) rfl) ?_
    refine sq_plain rfl rfl rfl (w_loadB1 0 rfl (ev_tmp rfl) rfl Try.isAgg151 rfl) ?_
    refine sq_plain rfl rfl rfl (w_call rfl Try.call250 rfl (eqVerS_spec _ _) (evl_cons (ev_tmp rfl) (evl_cons (ev_tmp rfl) evl_nil))) ?_
    refine sq_plain rfl rfl rfl (w_not rfl (ev_tmp rfl)) ?_
    refine sq_nil ?_
    refine awp_cond (ev_tmp rfl) ?_ ?_
    · intro h15
      refine awp_seq ?_
      refine awp_region ?_
      refine sq_plain rfl rfl rfl (w_assign rfl ev_cb) ?_
      refine sq_nil ?_
      refine awp_ret ?_
      exact retR rfl (rv_tmp' rfl (by exact congrArg AV.bool (by cases a; cases b; simp_all)))
    · intro h15
      refine awp_skip ?_
      refine awp_seq ?_
      refine awp_region ?_
      refine sq_plain rfl rfl rfl (w_assign rfl ev_cb) ?_
      refine sq_nil ?_
      refine awp_ret ?_
      exact retR rfl (rv_tmp' rfl (by exact congrArg AV.bool (by cases a; cases b; simp_all)))
theorem szCellS_spec (l : List TCell) (left : Int) (hok : (∀ x ∈ l, x.ok)) (h0 : 0 ≤ left) (h1 : left ≤ 1048576) : FSpec Try.prog 73 [AV.list 2 (l.map TCell.cs), AV.int left] (AV.int (szR (sizeL TCell.size l) left)) := by
  refine spec_of_awp Try.func73 rfl Try.ntmps73 rfl ?_
  refine awp_len (t := 0) rfl fun hl => ?_
  try simp only [List.length_map] at hl
  refine awp_seq ?_
  refine awp_region ?_
  refine sq_plain rfl rfl rfl (w_assign rfl ev_ci) ?_
  refine sq_nil ?_
  refine awp_seq ?_
  refine awp_region ?_
  refine sq_plain rfl rfl rfl (w_move rfl (ev_tmp rfl)) ?_
  refine sq_plain rfl rfl rfl (w_move rfl (ev_tmp rfl)) ?_
  refine sq_plain rfl rfl rfl (w_llen rfl Try.underlying81 (ev_tmp rfl)) ?_
  refine sq_plain rfl rfl rfl (w_subi rfl (ev_tmp rfl) (ev_tmp rfl) (by first | omega | ((try simp only [List.length_map, List.length_take, List.length_cons, List.length_nil, chunks_len, szR] at *); omega) | (have hc2 := hc; simp only [Bool.and_eq_true, Bool.or_eq_true, Bool.or_eq_false_iff, Bool.and_eq_false_iff, Bool.not_eq_true', Bool.not_eq_false', decide_eq_true_eq, decide_eq_false_iff_not, beq_iff_eq, bne_iff_ne, List.length_map, List.length_take] at hc2; omega))) ?_
  refine sq_plain rfl rfl rfl (w_assign rfl (ev_tmp rfl)) ?_
  refine sq_nil ?_
  refine awp_seq ?_
  refine awp_seq ?_
  refine awp_region ?_
  refine sq_plain rfl rfl rfl (w_move rfl (ev_tmp rfl)) ?_
  refine sq_plain rfl rfl rfl (w_lss rfl (ev_tmp rfl) ev_ci) ?_
  refine sq_nil ?_
  refine awp_cond (ev_tmp rfl) ?_ ?_
  · intro h11
    have k11 := of_decide_eq_true h11; try simp only [List.length_map] at k11
    refine awp_seq ?_
    refine awp_region ?_
    refine sq_plain rfl rfl rfl (w_assign rfl ev_ci) ?_
    refine sq_nil ?_
    refine awp_ret ?_
    exact retR rfl (rv_tmp' rfl (by exact congrArg AV.int (by simp only [szR, sizeL, List.length_map, decide_eq_true_eq, decide_eq_false_iff_not] at *; omega)))
  · intro h11
    have k11 := of_decide_eq_false h11; try simp only [List.length_map] at k11
    refine awp_skip ?_
    refine awp_seq ?_
    refine awp_seq ?_
    refine awp_region ?_
    refine sq_plain rfl rfl rfl (w_assign rfl ev_ci) ?_
    refine sq_nil ?_
    refine awp_block ?_
    refine awp_loop_i2 [(0, _)] _ (fun (i : Nat) (b : Int) => i ≤ l.length ∧ b = left - l.length - (((l.take i).map TCell.size).sum : Nat) ∧ 0 ≤ b) (fun (i : Nat) (b : Int) => []) (fun (i : Nat) (b : Int) => [(1, AV.int b), (5, AV.int i)]) (fun (i : Nat) (b : Int) => l.length - i) (0) (left - ((l.map fun x => TCell.cs x).length : Int)) ?_ (le_env ⟨rfl, rfl, rfl, trivial⟩) ?_
    · exact ⟨Nat.zero_le _, by simp, by simp only [List.length_map]; omega⟩
    intro i b hinv
    refine awp_seq ?_
    refine awp_seq ?_
    refine awp_region ?_
    refine sq_plain rfl rfl rfl (w_move rfl (ev_tmp rfl)) ?_
    refine sq_plain rfl rfl rfl (w_move rfl (ev_tmp rfl)) ?_
    refine sq_plain rfl rfl rfl (w_llen rfl Try.underlying81 (ev_tmp rfl)) ?_
    refine sq_plain rfl rfl rfl (w_lss rfl (ev_tmp rfl) (ev_tmp rfl)) ?_
    refine sq_nil ?_
    refine awp_cond (ev_tmp rfl) ?_ ?_
    · intro h15
      have k15 := of_decide_eq_true h15; try simp only [List.length_map] at k15
      have hlt : i < l.length := by omega
      obtain ⟨x, hx⟩ := get_some hlt
      have e2 := sum_le TCell.size l i x hx
      have hokx := hok x (List.mem_of_getElem? hx)
      refine awp_skip ?_
      refine awp_seq ?_
      refine awp_block ?_
      refine awp_seq ?_
      refine awp_region ?_
      refine sq_plain rfl rfl rfl (w_move rfl (ev_tmp rfl)) ?_
      refine sq_plain rfl rfl rfl (w_move rfl (ev_tmp rfl)) ?_
      refine sq_plain rfl rfl rfl (w_idx rfl Try.underlying81 Try.sizeOf175 (ev_tmp rfl) (ev_tmp rfl) (by omega) (by simp only [Int.toNat_natCast, List.getElem?_map, hx, Option.map_some]; try rfl)) ?_
      refine sq_plain rfl rfl rfl (w_loadE rfl (ev_tmp rfl) Try.isAgg175 Try.sizeOf175) ?_
      refine sq_plain rfl rfl rfl (w_move rfl (ev_tmp rfl)) ?_
      refine sq_plain rfl rfl rfl (w_call rfl Try.call174 rfl (szCell_spec _ _ (by assumption) (by first | omega | ((try simp only [List.length_map, List.length_take, List.length_cons, List.length_nil, chunks_len, szR] at *); omega) | (have hc2 := hc; simp only [Bool.and_eq_true, Bool.or_eq_true, Bool.or_eq_false_iff, Bool.and_eq_false_iff, Bool.not_eq_true', Bool.not_eq_false', decide_eq_true_eq, decide_eq_false_iff_not, beq_iff_eq, bne_iff_ne, List.length_map, List.length_take] at hc2; omega)) (by first | omega | ((try simp only [List.length_map, List.length_take, List.length_cons, List.length_nil, chunks_len, szR] at *); omega) | (have hc2 := hc; simp only [Bool.and_eq_true, Bool.or_eq_true, Bool.or_eq_false_iff, Bool.and_eq_false_iff, Bool.not_eq_true', Bool.not_eq_false', decide_eq_true_eq, decide_eq_false_iff_not, beq_iff_eq, bne_iff_ne, List.length_map, List.length_take] at hc2; omega))) (evl_cons (ev_tmp rfl) (evl_cons (ev_tmp rfl) evl_nil))) ?_
      refine sq_plain rfl rfl rfl (w_assign rfl (ev_tmp rfl)) ?_
      refine sq_nil ?_
      refine awp_seq ?_
      refine awp_region ?_
      refine sq_plain rfl rfl rfl (w_move rfl (ev_tmp rfl)) ?_
      refine sq_plain rfl rfl rfl (w_lss rfl (ev_tmp rfl) ev_ci) ?_
      refine sq_nil ?_
      refine awp_cond (ev_tmp rfl) ?_ ?_
      · intro h25
        have k25 := of_decide_eq_true h25; try simp only [List.length_map] at k25
        refine awp_seq ?_
        refine awp_region ?_
        refine sq_plain rfl rfl rfl (w_assign rfl ev_ci) ?_
        refine sq_nil ?_
        refine awp_ret ?_
        exact retR rfl (rv_tmp' rfl (by exact congrArg AV.int (by simp only [szR, sizeL, List.length_map, decide_eq_true_eq, decide_eq_false_iff_not] at *; omega)))
      · intro h25
        have k25 := of_decide_eq_false h25; try simp only [List.length_map] at k25
        refine awp_skip ?_
        refine awp_region ?_
        refine sq_plain rfl rfl rfl (w_move rfl (ev_tmp rfl)) ?_
        refine sq_plain rfl rfl rfl (w_addi rfl (ev_tmp rfl) ev_ci (by first | omega | ((try simp only [List.length_map, List.length_take, List.length_cons, List.length_nil, chunks_len, szR] at *); omega) | (have hc2 := hc; simp only [Bool.and_eq_true, Bool.or_eq_true, Bool.or_eq_false_iff, Bool.and_eq_false_iff, Bool.not_eq_true', Bool.not_eq_false', decide_eq_true_eq, decide_eq_false_iff_not, beq_iff_eq, bne_iff_ne, List.length_map, List.length_take] at hc2; omega))) ?_
        refine sq_plain rfl rfl rfl (w_assign rfl (ev_tmp rfl)) ?_
        refine sq_nil ?_
        refine round_end2 i b (i + 1) ((szR (TCell.size x) b)) ?_ ?_ (le_env ⟨rfl, rfl, rfl, trivial⟩)
        · exact ⟨by omega, by have e1 := sum_take TCell.size l i x hx; simp only [szR, decide_eq_false_iff_not] at *; omega, by omega⟩
        · omega
    · intro h15
      have k15 := of_decide_eq_false h15; try simp only [List.length_map] at k15
      have hge : l.length ≤ i := by omega
      have e3 : ((l.take i).map TCell.size).sum = (l.map TCell.size).sum := by rw [List.take_of_length_le hge]
      refine awp_exit ?_
      refine awp_seq ?_
      refine awp_region ?_
      refine sq_plain rfl rfl rfl (w_move rfl (ev_tmp rfl)) ?_
      refine sq_plain rfl rfl rfl (w_assign rfl (ev_tmp rfl)) ?_
      refine sq_nil ?_
      refine awp_ret ?_
      exact retR rfl (rv_tmp' rfl (by exact congrArg AV.int (by simp only [szR, sizeL, List.length_map, decide_eq_true_eq, decide_eq_false_iff_not] at *; omega)))
theorem toCellS_spec (l : List TCell) (hs : sizeL TCell.size l ≤ 1048576) : FSpec Try.prog 76 [AV.list 2 (l.map TCell.cs)] (AV.list 2 (l.map TCell.cs)) := by
  have hsl : l.length ≤ 1048576 := Nat.le_trans sizeL_len hs
  refine spec_of_awp Try.func76 rfl Try.ntmps76 rfl ?_
  refine awp_seq ?_
  refine awp_region ?_
  refine sq_plain rfl rfl rfl (w_assign rfl (ev_cnil (sz := 2))) ?_
  refine sq_nil ?_
  refine awp_seq ?_
  refine awp_region ?_
  refine sq_plain rfl rfl rfl (w_move rfl (ev_tmp rfl)) ?_
  refine sq_plain rfl rfl rfl (w_llen rfl Try.underlying81 (ev_tmp rfl)) ?_
  refine sq_make (by' := 40) rfl rfl rfl rfl Try.underlying53 Try.type153 rfl rfl rfl rfl rfl rfl (ev_tmp rfl) (ev_tmp rfl) (by simp only [List.length_map]; omega) (by simp only [List.length_map]; omega) ?_
  intro v7
  refine sq_plain rfl rfl rfl (w_assign rfl (ev_tmp rfl)) ?_
  refine sq_nil ?_
  refine awp_seq ?_
  refine awp_seq ?_
  refine awp_region ?_
  refine sq_plain rfl rfl rfl (w_assign rfl ev_ci) ?_
  refine sq_nil ?_
  refine awp_block ?_
  refine awp_loop_i [(0, _), (2, _), (3, _)] _ (fun (i : Nat) => i ≤ l.length) (fun (i : Nat) => [.arr v7 153 2 ((l.take i).map TCell.cs ++ List.replicate (l.length - i) [AV.str [], AV.nils])]) (fun (i : Nat) => [(4, AV.int i)]) (fun (i : Nat) => l.length - i) (0) ?_ (le_eq (by simp only [List.length_map]; rfl) ⟨rfl, rfl, rfl, rfl, trivial⟩) ?_
  · exact Nat.zero_le _
  intro i hinv
  refine awp_seq ?_
  refine awp_seq ?_
  refine awp_region ?_
  refine sq_plain rfl rfl rfl (w_move rfl (ev_tmp rfl)) ?_
  refine sq_plain rfl rfl rfl (w_move rfl (ev_tmp rfl)) ?_
  refine sq_plain rfl rfl rfl (w_llen rfl Try.underlying81 (ev_tmp rfl)) ?_
  refine sq_plain rfl rfl rfl (w_lss rfl (ev_tmp rfl) (ev_tmp rfl)) ?_
  refine sq_nil ?_
  refine awp_cond (ev_tmp rfl) ?_ ?_
  · intro h11
    have k11 := of_decide_eq_true h11; try simp only [List.length_map] at k11
    have hlt : i < l.length := by omega
    obtain ⟨x, hx⟩ := get_some hlt
    have hsx : TCell.size x ≤ 1048576 := Nat.le_trans (sizeL_get hx) hs
    refine awp_skip ?_
    refine awp_seq ?_
    refine awp_block ?_
    refine awp_region ?_
    refine sq_plain rfl rfl rfl (w_move rfl (ev_tmp rfl)) ?_
    refine sq_plain rfl rfl rfl (w_move rfl (ev_tmp rfl)) ?_
    refine sq_plain rfl rfl rfl (w_move rfl (ev_tmp rfl)) ?_
    refine sq_plain rfl rfl rfl (w_move rfl (ev_tmp rfl)) ?_
    refine sq_plain rfl rfl rfl (w_idx rfl Try.underlying81 Try.sizeOf175 (ev_tmp rfl) (ev_tmp rfl) (by omega) (by simp only [Int.toNat_natCast, List.getElem?_map, hx, Option.map_some]; try rfl)) ?_
    refine sq_plain rfl rfl rfl (w_loadE rfl (ev_tmp rfl) Try.isAgg175 Try.sizeOf175) ?_
    refine sq_plain rfl rfl rfl (w_call rfl Try.call177 rfl (toCell_spec _ (by first | assumption | omega | (simp only [] at *; omega))) (evl_cons (ev_tmp rfl) evl_nil)) ?_
    refine sq_plain rfl rfl rfl (w_aidx 0 rfl Try.underlying53 Try.sizeOf153 (ev_tmp rfl) rfl (ev_tmp rfl) (by omega) (by rw [fill_len hinv]; omega)) ?_
    refine sq_storeA 0 rfl rfl rfl (ev_tmp rfl) (ev_tmp rfl) (as_agg _) rfl Try.sizeOf153 rfl (by rw [fill_len hinv]; omega) ?_
    refine sq_nil ?_
    refine awp_region ?_
    refine sq_plain rfl rfl rfl (w_move rfl (ev_tmp rfl)) ?_
    refine sq_plain rfl rfl rfl (w_addi rfl (ev_tmp rfl) ev_ci (by first | omega | ((try simp only [List.length_map, List.length_take, List.length_cons, List.length_nil, chunks_len, szR] at *); omega) | (have hc2 := hc; simp only [Bool.and_eq_true, Bool.or_eq_true, Bool.or_eq_false_iff, Bool.and_eq_false_iff, Bool.not_eq_true', Bool.not_eq_false', decide_eq_true_eq, decide_eq_false_iff_not, beq_iff_eq, bne_iff_ne, List.length_map, List.length_take] at hc2; omega))) ?_
    refine sq_plain rfl rfl rfl (w_assign rfl (ev_tmp rfl)) ?_
    refine sq_nil ?_
    refine round_end i (i + 1) ?_ ?_ (le_eq (by exact congrArg (fun z => [Own.arr v7 153 2 z]) (fill_step hx)) ⟨rfl, rfl, rfl, rfl, trivial⟩)
    · omega
    · omega
  · intro h11
    have k11 := of_decide_eq_false h11; try simp only [List.length_map] at k11
    have hge : l.length ≤ i := by omega
    rw [fill_done hge]
    refine awp_exit ?_
    refine awp_seq ?_
    refine awp_region ?_
    refine sq_plain rfl rfl rfl (w_move rfl (ev_tmp rfl)) ?_
    refine sq_plain rfl rfl rfl (w_assign rfl (ev_tmp rfl)) ?_
    refine sq_nil ?_
    refine awp_ret ?_
    refine ret_seal 0 2 rfl rfl ?_
    exact retR rfl (rv_tmp' rfl (by first | rfl | (refine congrArg AV.bool ?_; simp_all; done)))
theorem eqCellS_spec (a b : List TCell) : FSpec Try.prog 79 [AV.list 2 (a.map TCell.cs), AV.list 2 (b.map TCell.cs)] (AV.bool (decide (a = b))) := by
  refine spec_of_awp Try.func79 rfl Try.ntmps79 rfl ?_
  refine awp_len (t := 0) rfl fun hl => ?_
  try simp only [List.length_map] at hl
  refine awp_seq ?_
  refine awp_region ?_
  refine sq_plain rfl rfl rfl (w_assign rfl ev_cb) ?_
  refine sq_nil ?_
  refine awp_seq ?_
  refine awp_seq ?_
  refine awp_region ?_
  refine sq_plain rfl rfl rfl (w_move rfl (ev_tmp rfl)) ?_
  refine sq_plain rfl rfl rfl (w_llen rfl Try.underlying53 (ev_tmp rfl)) ?_
  refine sq_plain rfl rfl rfl (w_move rfl (ev_tmp rfl)) ?_
  refine sq_plain rfl rfl rfl (w_llen rfl Try.underlying53 (ev_tmp rfl)) ?_
  refine sq_plain rfl rfl rfl (w_neq rfl (ev_tmp rfl) (ev_tmp rfl)) ?_
  refine sq_nil ?_
  refine awp_cond (ev_tmp rfl) ?_ ?_
  · intro h10
    have k10 := ne_of_bne h10; try simp only [List.length_map] at k10
    have hab : a ≠ b := by intro hc; subst hc; exact k10 rfl
    refine awp_seq ?_
    refine awp_region ?_
    refine sq_plain rfl rfl rfl (w_assign rfl ev_cb) ?_
    refine sq_nil ?_
    refine awp_ret ?_
    exact retR rfl (rv_tmp' rfl (by exact congrArg AV.bool (by simp [hab])))
  · intro h10
    have k10 := eq_of_bne_false h10; try simp only [List.length_map] at k10
    have heq : a.length = b.length := by omega
    refine awp_skip ?_
    refine awp_seq ?_
    refine awp_seq ?_
    refine awp_region ?_
    refine sq_plain rfl rfl rfl (w_assign rfl ev_ci) ?_
    refine sq_nil ?_
    refine awp_block ?_
    refine awp_loop_i [(0, _), (1, _)] _ (fun (i : Nat) => i ≤ a.length ∧ a.take i = b.take i) (fun (i : Nat) => []) (fun (i : Nat) => [(5, AV.int i)]) (fun (i : Nat) => a.length - i) (0) ?_ (le_env ⟨rfl, rfl, rfl, trivial⟩) ?_
    · exact ⟨Nat.zero_le _, rfl⟩
    intro i hinv
    refine awp_seq ?_
    refine awp_seq ?_
    refine awp_region ?_
    refine sq_plain rfl rfl rfl (w_move rfl (ev_tmp rfl)) ?_
    refine sq_plain rfl rfl rfl (w_move rfl (ev_tmp rfl)) ?_
    refine sq_plain rfl rfl rfl (w_llen rfl Try.underlying53 (ev_tmp rfl)) ?_
    refine sq_plain rfl rfl rfl (w_lss rfl (ev_tmp rfl) (ev_tmp rfl)) ?_
    refine sq_nil ?_
    refine awp_cond (ev_tmp rfl) ?_ ?_
    · intro h14
      have k14 := of_decide_eq_true h14; try simp only [List.length_map] at k14
      have hlt : i < a.length := by omega
      obtain ⟨x, hx⟩ := get_some hlt
      obtain ⟨y, hy⟩ := get_some (show i < b.length by omega)
      refine awp_skip ?_
      refine awp_seq ?_
      refine awp_block ?_
      refine awp_seq ?_
      refine awp_region_any (by kernel_rfl) (by kernel_rfl) rfl ?_
      refine ch_plain rfl rfl (w_move rfl (ev_tmp rfl)) ?_
      refine ch_plain rfl rfl (w_move rfl (ev_tmp rfl)) ?_
      refine ch_plain rfl rfl (w_idx rfl Try.underlying53 Try.sizeOf153 (ev_tmp rfl) (ev_tmp rfl) (by omega) (by simp only [Int.toNat_natCast, List.getElem?_map, hx, Option.map_some]; try rfl)) ?_
      refine ch_plain rfl rfl (w_loadE rfl (ev_tmp rfl) Try.isAgg153 Try.sizeOf153) ?_
      refine ch_plain rfl rfl (w_move rfl (ev_tmp rfl)) ?_
      refine ch_plain rfl rfl (w_move rfl (ev_tmp rfl)) ?_
      refine ch_plain rfl rfl (w_idx rfl Try.underlying53 Try.sizeOf153 (ev_tmp rfl) (ev_tmp rfl) (by omega) (by simp only [Int.toNat_natCast, List.getElem?_map, hy, Option.map_some]; try rfl)) ?_
      refine ch_plain rfl rfl (w_loadE rfl (ev_tmp rfl) Try.isAgg153 Try.sizeOf153) ?_
      refine ch_plain rfl rfl (w_call rfl Try.call181 rfl (eqCell_spec _ _) (evl_cons (ev_tmp rfl) (evl_cons (ev_tmp rfl) evl_nil))) ?_
      refine ch_plain rfl rfl (w_not rfl (ev_tmp rfl)) ?_
      refine ch_nil ?_
      refine awp_cond (ev_tmp rfl) ?_ ?_
      · intro h26
        have hab : a ≠ b := by intro hc; subst hc; rw [hx] at hy; injection hy with hy; subst hy; simp at h26
        refine awp_seq ?_
        refine awp_region ?_
        refine sq_plain rfl rfl rfl (w_assign rfl ev_cb) ?_
        refine sq_nil ?_
        refine awp_ret ?_
        exact retR rfl (rv_tmp' rfl (by exact congrArg AV.bool (by simp [hab])))
      · intro h26
        refine awp_skip ?_
        refine awp_region ?_
        refine sq_plain rfl rfl rfl (w_move rfl (ev_tmp rfl)) ?_
        refine sq_plain rfl rfl rfl (w_addi rfl (ev_tmp rfl) ev_ci (by first | omega | ((try simp only [List.length_map, List.length_take, List.length_cons, List.length_nil, chunks_len, szR] at *); omega) | (have hc2 := hc; simp only [Bool.and_eq_true, Bool.or_eq_true, Bool.or_eq_false_iff, Bool.and_eq_false_iff, Bool.not_eq_true', Bool.not_eq_false', decide_eq_true_eq, decide_eq_false_iff_not, beq_iff_eq, bne_iff_ne, List.length_map, List.length_take] at hc2; omega))) ?_
        refine sq_plain rfl rfl rfl (w_assign rfl (ev_tmp rfl)) ?_
        refine sq_nil ?_
        refine round_end i (i + 1) ?_ ?_ (le_env ⟨rfl, rfl, rfl, trivial⟩)
        · exact ⟨by omega, take_eq_succ hinv.2 hx (by rw [hy]; congr 1; simp_all)⟩
        · omega
    · intro h14
      have k14 := of_decide_eq_false h14; try simp only [List.length_map] at k14
      have hge : a.length ≤ i := by omega
      have hab : a = b := take_eq_of heq hinv.2 hge
      refine awp_exit ?_
      refine awp_seq ?_
      refine awp_region ?_
      refine sq_plain rfl rfl rfl (w_assign rfl ev_cb) ?_
      refine sq_nil ?_
      refine awp_ret ?_
      exact retR rfl (rv_tmp' rfl (by exact congrArg AV.bool (by simp [hab])))
theorem szFeedItem_spec (a : TFeedItem) (left : Int) (hok : a.ok) (h0 : 0 ≤ left) (h1 : left ≤ 1048576) : FSpec Try.prog 175 [AV.agg a.cs, AV.int left] (AV.int (szR a.size left)) := by
  obtain ⟨oKey, oVal⟩ := hok
  refine spec_of_awp Try.func175 rfl Try.ntmps175 rfl ?_
  refine awp_seq ?_
  refine awp_region ?_
  refine sq_box rfl rfl rfl rfl (ev_tmp rfl) ?_
  intro b2
  refine sq_plain rfl rfl rfl (w_assign rfl ev_ci) ?_
  refine sq_nil ?_
  refine awp_seq ?_
  refine awp_region ?_
  refine sq_plain rfl rfl rfl (w_move rfl (ev_tmp rfl)) ?_
  refine sq_plain rfl rfl rfl (w_fldBn 2 rfl Try.underlying178 rfl Try.sizeOf9 (ev_tmp rfl) rfl) ?_
  refine sq_plain rfl rfl rfl (w_loadB1 0 rfl (ev_tmp rfl) rfl Try.isAgg9 rfl) ?_
  refine sq_plain rfl rfl rfl (w_slen rfl Try.underlying9 (ev_tmp rfl)) ?_
  refine sq_plain rfl rfl rfl (w_subi rfl (ev_tmp rfl) (ev_tmp rfl) (by first | omega | ((try simp only [List.length_map, List.length_take, List.length_cons, List.length_nil, chunks_len, szR] at *); omega) | (have hc2 := hc; simp only [Bool.and_eq_true, Bool.or_eq_true, Bool.or_eq_false_iff, Bool.and_eq_false_iff, Bool.not_eq_true', Bool.not_eq_false', decide_eq_true_eq, decide_eq_false_iff_not, beq_iff_eq, bne_iff_ne, List.length_map, List.length_take] at hc2; omega))) ?_
  refine sq_plain rfl rfl rfl (w_assign rfl (ev_tmp rfl)) ?_
  refine sq_nil ?_
  refine awp_seq ?_
  refine awp_seq ?_
  refine awp_region ?_
  refine sq_plain rfl rfl rfl (w_move rfl (ev_tmp rfl)) ?_
  refine sq_plain rfl rfl rfl (w_lss rfl (ev_tmp rfl) ev_ci) ?_
  refine sq_nil ?_
  refine awp_cond (ev_tmp rfl) ?_ ?_
  · intro h11
    have k11 := of_decide_eq_true h11; try simp only [List.length_map] at k11
    refine awp_seq ?_
    refine awp_region ?_
    refine sq_plain rfl rfl rfl (w_assign rfl ev_ci) ?_
    refine sq_nil ?_
    refine awp_ret ?_
    exact retR rfl (rv_tmp' rfl (by exact congrArg AV.int (by simp only [szR, TFeedItem.size, decide_eq_true_eq, decide_eq_false_iff_not] at *; omega)))
  · intro h11
    have k11 := of_decide_eq_false h11; try simp only [List.length_map] at k11
    refine awp_skip ?_
    refine awp_seq ?_
    refine awp_region ?_
    refine sq_plain rfl rfl rfl (w_move rfl (ev_tmp rfl)) ?_
    refine sq_plain rfl rfl rfl (w_fldBn 3 rfl Try.underlying178 rfl Try.sizeOf9 (ev_tmp rfl) rfl) ?_
    refine sq_plain rfl rfl rfl (w_loadB1 0 rfl (ev_tmp rfl) rfl Try.isAgg9 rfl) ?_
    refine sq_plain rfl rfl rfl (w_slen rfl Try.underlying9 (ev_tmp rfl)) ?_
    refine sq_plain rfl rfl rfl (w_subi rfl (ev_tmp rfl) (ev_tmp rfl) (by first | omega | ((try simp only [List.length_map, List.length_take, List.length_cons, List.length_nil, chunks_len, szR] at *); omega) | (have hc2 := hc; simp only [Bool.and_eq_true, Bool.or_eq_true, Bool.or_eq_false_iff, Bool.and_eq_false_iff, Bool.not_eq_true', Bool.not_eq_false', decide_eq_true_eq, decide_eq_false_iff_not, beq_iff_eq, bne_iff_ne, List.length_map, List.length_take] at hc2; omega))) ?_
    refine sq_plain rfl rfl rfl (w_assign rfl (ev_tmp rfl)) ?_
    refine sq_nil ?_
    refine awp_seq ?_
    refine awp_seq ?_
    refine awp_region ?_
    refine sq_plain rfl rfl rfl (w_move rfl (ev_tmp rfl)) ?_
    refine sq_plain rfl rfl rfl (w_lss rfl (ev_tmp rfl) ev_ci) ?_
    refine sq_nil ?_
    refine awp_cond (ev_tmp rfl) ?_ ?_
    · intro h18
      have k18 := of_decide_eq_true h18; try simp only [List.length_map] at k18
      refine awp_seq ?_
      refine awp_region ?_
      refine sq_plain rfl rfl rfl (w_assign rfl ev_ci) ?_
      refine sq_nil ?_
      refine awp_ret ?_
      exact retR rfl (rv_tmp' rfl (by exact congrArg AV.int (by simp only [szR, TFeedItem.size, decide_eq_true_eq, decide_eq_false_iff_not] at *; omega)))
    · intro h18
      have k18 := of_decide_eq_false h18; try simp only [List.length_map] at k18
      refine awp_skip ?_
      refine awp_seq ?_
      refine awp_region ?_
      refine sq_plain rfl rfl rfl (w_move rfl (ev_tmp rfl)) ?_
      refine sq_plain rfl rfl rfl (w_assign rfl (ev_tmp rfl)) ?_
      refine sq_nil ?_
      refine awp_ret ?_
      exact retR rfl (rv_tmp' rfl (by exact congrArg AV.int (by simp only [szR, TFeedItem.size, decide_eq_true_eq, decide_eq_false_iff_not] at *; omega)))
theorem toFeedItem_spec (a : TFeedItem) (hs : a.size ≤ 1048576) : FSpec Try.prog 178 [AV.agg a.cs] (AV.agg a.cs) := by
  unfold TFeedItem.size at hs
  refine spec_of_awp Try.func178 rfl Try.ntmps178 rfl ?_
  refine awp_seq ?_
  refine awp_region ?_
  refine sq_box rfl rfl rfl rfl (ev_tmp rfl) ?_
  intro b1
  refine sq_alloc rfl rfl rfl rfl Try.zeroValue179 rfl ?_
  intro b2
  refine sq_nil ?_
  refine awp_seq ?_
  refine awp_region ?_
  refine sq_alloc rfl rfl rfl rfl Try.zeroValue179 rfl ?_
  intro b3
  refine sq_nil ?_
  refine awp_seq ?_
  refine awp_region ?_
  refine sq_plain rfl rfl rfl (w_fldBn 0 rfl Try.underlying178 rfl Try.sizeOf3 (ev_tmp rfl) rfl) ?_
  refine sq_plain rfl rfl rfl (w_loadB1 2 rfl (ev_tmp rfl) rfl Try.isAgg3 rfl) ?_
  refine sq_plain rfl rfl rfl (w_fldBn 0 rfl Try.underlying179 rfl Try.sizeOf3 (ev_tmp rfl) rfl) ?_
  refine sq_storeB1 0 rfl rfl rfl (ev_tmp rfl) (ev_tmp rfl) (as_ik _ _) rfl Try.sizeOf3 rfl ?_
  refine sq_nil ?_
  refine awp_seq ?_
  refine awp_region ?_
  refine sq_plain rfl rfl rfl (w_fldBn 1 rfl Try.underlying178 rfl Try.sizeOf3 (ev_tmp rfl) rfl) ?_
  refine sq_plain rfl rfl rfl (w_loadB1 2 rfl (ev_tmp rfl) rfl Try.isAgg3 rfl) ?_
  refine sq_plain rfl rfl rfl (w_fldBn 1 rfl Try.underlying179 rfl Try.sizeOf3 (ev_tmp rfl) rfl) ?_
  refine sq_storeB1 0 rfl rfl rfl (ev_tmp rfl) (ev_tmp rfl) (as_ik _ _) rfl Try.sizeOf3 rfl ?_
  refine sq_nil ?_
  refine awp_seq ?_
  refine awp_region ?_
  refine sq_plain rfl rfl rfl (w_fldBn 2 rfl Try.underlying178 rfl Try.sizeOf9 (ev_tmp rfl) rfl) ?_
  refine sq_plain rfl rfl rfl (w_loadB1 2 rfl (ev_tmp rfl) rfl Try.isAgg9 rfl) ?_
  refine sq_plain rfl rfl rfl (w_fldBn 2 rfl Try.underlying179 rfl Try.sizeOf9 (ev_tmp rfl) rfl) ?_
  refine sq_storeB1 0 rfl rfl rfl (ev_tmp rfl) (ev_tmp rfl) (as_str _) rfl Try.sizeOf9 rfl ?_
  refine sq_nil ?_
  refine awp_seq ?_
  refine awp_region ?_
  refine sq_plain rfl rfl rfl (w_fldBn 3 rfl Try.underlying178 rfl Try.sizeOf9 (ev_tmp rfl) rfl) ?_
  refine sq_plain rfl rfl rfl (w_loadB1 2 rfl (ev_tmp rfl) rfl Try.isAgg9 rfl) ?_
  refine sq_plain rfl rfl rfl (w_fldBn 3 rfl Try.underlying179 rfl Try.sizeOf9 (ev_tmp rfl) rfl) ?_
  refine sq_storeB1 0 rfl rfl rfl (ev_tmp rfl) (ev_tmp rfl) (as_str _) rfl Try.sizeOf9 rfl ?_
  refine sq_nil ?_
  refine awp_seq ?_
  refine awp_region ?_
  refine sq_plain rfl rfl rfl (w_fldBn 4 rfl Try.underlying178 rfl Try.sizeOf4 (ev_tmp rfl) rfl) ?_
  refine sq_plain rfl rfl rfl (w_loadB1 2 rfl (ev_tmp rfl) rfl Try.isAgg4 rfl) ?_
  refine sq_plain rfl rfl rfl (w_fldBn 4 rfl Try.underlying179 rfl Try.sizeOf4 (ev_tmp rfl) rfl) ?_
  refine sq_storeB1 0 rfl rfl rfl (ev_tmp rfl) (ev_tmp rfl) (as_bool _) rfl Try.sizeOf4 rfl ?_
  refine sq_nil ?_
  refine awp_seq ?_
  refine awp_region ?_
  refine sq_plain rfl rfl rfl (w_loadA 0 rfl (ev_tmp rfl) rfl Try.isAgg179 Try.sizeOf179 rfl) ?_
  refine sq_storeB0 1 rfl rfl rfl (ev_tmp rfl) (ev_tmp rfl) (as_agg _) rfl Try.sizeOf179 rfl ?_
  refine sq_nil ?_
  refine awp_ret ?_
  exact retR rfl (rv_cell (ys := _) 1 rfl rfl Try.isAgg179 Try.sizeOf179 rfl)
theorem eqFeedItem_spec (a b : TFeedItem) : FSpec Try.prog 182 [AV.agg a.cs, AV.agg b.cs] (AV.bool (decide (a = b))) := by
  refine spec_of_awp Try.func182 rfl Try.ntmps182 rfl ?_
  refine awp_seq ?_
  refine awp_region ?_
  refine sq_box rfl rfl rfl rfl (ev_tmp rfl) ?_
  intro b2
  refine sq_box rfl rfl rfl rfl (ev_tmp rfl) ?_
  intro b3
  refine sq_plain rfl rfl rfl (w_assign rfl ev_cb) ?_
  refine sq_nil ?_
  refine awp_seq ?_
  refine awp_seq ?_
  refine awp_region ?_
  refine sq_plain rfl rfl rfl (w_fldBn 0 rfl Try.underlying179 rfl Try.sizeOf3 (ev_tmp rfl) rfl) ?_
  refine sq_plain rfl rfl rfl (w_loadB1 1 rfl (ev_tmp rfl) rfl Try.isAgg3 rfl) ?_
  refine sq_plain rfl rfl rfl (w_fldBn 0 rfl Try.underlying179 rfl Try.sizeOf3 (ev_tmp rfl) rfl) ?_
  refine sq_plain rfl rfl rfl (w_loadB1 0 rfl (ev_tmp rfl) rfl Try.isAgg3 rfl) ?_
  refine sq_plain rfl rfl rfl (w_neq rfl (ev_tmp rfl) (ev_tmp rfl)) ?_
  refine sq_nil ?_
  refine awp_cond (ev_tmp rfl) ?_ ?_
  · intro h9
    have k9 := ne_of_bne h9; try simp only [List.length_map] at k9
    refine awp_seq ?_
    refine awp_region ?_
    refine sq_plain rfl rfl rfl (w_assign rfl ev_cb) ?_
    refine sq_nil ?_
    refine awp_ret ?_
    exact retR rfl (rv_tmp' rfl (by exact congrArg AV.bool (by cases a; cases b; simp_all)))
  · intro h9
    have k9 := eq_of_bne_false h9; try simp only [List.length_map] at k9
    refine awp_skip ?_
    refine awp_seq ?_
    refine awp_seq ?_
    refine awp_region ?_
    refine sq_plain rfl rfl rfl (w_fldBn 1 rfl Try.underlying179 rfl Try.sizeOf3 (ev_tmp rfl) rfl) ?_
    refine sq_plain rfl rfl rfl (w_loadB1 1 rfl (ev_tmp rfl) rfl Try.isAgg3 rfl) ?_
    refine sq_plain rfl rfl rfl (w_fldBn 1 rfl Try.underlying179 rfl Try.sizeOf3 (ev_tmp rfl) rfl) ?_
    refine sq_plain rfl rfl rfl (w_loadB1 0 rfl (ev_tmp rfl) rfl Try.isAgg3 rfl) ?_
    refine sq_plain rfl rfl rfl (w_neq rfl (ev_tmp rfl) (ev_tmp rfl)) ?_
    refine sq_nil ?_
    refine awp_cond (ev_tmp rfl) ?_ ?_
    · intro h14
      have k14 := ne_of_bne h14; try simp only [List.length_map] at k14
      refine awp_seq ?_
      refine awp_region ?_
      refine sq_plain rfl rfl rfl (w_assign rfl ev_cb) ?_
      refine sq_nil ?_
      refine awp_ret ?_
      exact retR rfl (rv_tmp' rfl (by exact congrArg AV.bool (by cases a; cases b; simp_all)))
    · intro h14
      have k14 := eq_of_bne_false h14; try simp only [List.length_map] at k14
      refine awp_skip ?_
      refine awp_seq ?_
      refine awp_seq ?_
      refine awp_region ?_
      refine sq_plain rfl rfl rfl (w_fldBn 2 rfl Try.underlying179 rfl Try.sizeOf9 (ev_tmp rfl) rfl) ?_
      refine sq_plain rfl rfl rfl (w_loadB1 1 rfl (ev_tmp rfl) rfl Try.isAgg9 rfl) ?_
      refine sq_plain rfl rfl rfl (w_fldBn 2 rfl Try.underlying179 rfl Try.sizeOf9 (ev_tmp rfl) rfl) ?_
      refine sq_plain rfl rfl rfl (w_loadB1 0 rfl (ev_tmp rfl) rfl Try.isAgg9 rfl) ?_
      refine sq_plain rfl rfl rfl (w_sneq rfl (ev_tmp rfl) (ev_tmp rfl)) ?_
      refine sq_nil ?_
      refine awp_cond (ev_tmp rfl) ?_ ?_
      · intro h19
        refine awp_seq ?_
        refine awp_region ?_
        refine sq_plain rfl rfl rfl (w_assign rfl ev_cb) ?_
        refine sq_nil ?_
        refine awp_ret ?_
        exact retR rfl (rv_tmp' rfl (by exact congrArg AV.bool (by cases a; cases b; simp_all)))
      · intro h19
        refine awp_skip ?_
        refine awp_seq ?_
        refine awp_seq ?_
        refine awp_region ?_
        refine sq_plain rfl rfl rfl (w_fldBn 3 rfl Try.underlying179 rfl Try.sizeOf9 (ev_tmp rfl) rfl) ?_
        refine sq_plain rfl rfl rfl (w_loadB1 1 rfl (ev_tmp rfl) rfl Try.isAgg9 rfl) ?_
        refine sq_plain rfl rfl rfl (w_fldBn 3 rfl Try.underlying179 rfl Try.sizeOf9 (ev_tmp rfl) rfl) ?_
        refine sq_plain rfl rfl rfl (w_loadB1 0 rfl (ev_tmp rfl) rfl Try.isAgg9 rfl) ?_
        refine sq_plain rfl rfl rfl (w_sneq rfl (ev_tmp rfl) (ev_tmp rfl)) ?_
        refine sq_nil ?_
        refine awp_cond (ev_tmp rfl) ?_ ?_
        · intro h24
          refine awp_seq ?_
          refine awp_region ?_
          refine sq_plain rfl rfl rfl (w_assign rfl ev_cb) ?_
          refine sq_nil ?_
          refine awp_ret ?_
          exact retR rfl (rv_tmp' rfl (by exact congrArg AV.bool (by cases a; cases b; simp_all)))
        · intro h24
          refine awp_skip ?_
          refine awp_seq ?_
          refine awp_seq ?_
          refine awp_region ?_
          refine sq_plain rfl rfl rfl (w_fldBn 4 rfl Try.underlying179 rfl Try.sizeOf4 (ev_tmp rfl) rfl) ?_
          refine sq_plain rfl rfl rfl (w_loadB1 1 rfl (ev_tmp rfl) rfl Try.isAgg4 rfl) ?_
          refine sq_plain rfl rfl rfl (w_fldBn 4 rfl Try.underlying179 rfl Try.sizeOf4 (ev_tmp rfl) rfl) ?_
          refine sq_plain rfl rfl rfl (w_loadB1 0 rfl (ev_tmp rfl) rfl Try.isAgg4 rfl) ?_
          refine sq_plain rfl rfl rfl (w_bneq rfl Try.underlying4 (ev_tmp rfl) (ev_tmp rfl)) ?_
          refine sq_nil ?_
          refine awp_cond (ev_tmp rfl) ?_ ?_
          · intro h29
            refine awp_seq ?_
            refine awp_region ?_
            refine sq_plain rfl rfl rfl (w_assign rfl ev_cb) ?_
            refine sq_nil ?_
            refine awp_ret ?_
            exact retR rfl (rv_tmp' rfl (by exact congrArg AV.bool (by cases a; cases b; simp_all)))
          · intro h29
            refine awp_skip ?_
            refine awp_seq ?_
            refine awp_region ?_
            refine sq_plain rfl rfl rfl (w_assign rfl ev_cb) ?_
            refine sq_nil ?_
            refine awp_ret ?_
            exact retR rfl (rv_tmp' rfl (by exact congrArg AV.bool (by cases a; cases b; simp_all)))
theorem szFeedItemS_spec (l : List TFeedItem) (left : Int) (hok : (∀ x ∈ l, x.ok)) (h0 : 0 ≤ left) (h1 : left ≤ 1048576) : FSpec Try.prog 74 [AV.list 5 (l.map TFeedItem.cs), AV.int left] (AV.int (szR (sizeL TFeedItem.size l) left)) := by
  refine spec_of_awp Try.func74 rfl Try.ntmps74 rfl ?_
  refine awp_len (t := 0) rfl fun hl => ?_
  try simp only [List.length_map] at hl
  refine awp_seq ?_
  refine awp_region ?_
  refine sq_plain rfl rfl rfl (w_assign rfl ev_ci) ?_
  refine sq_nil ?_
  refine awp_seq ?_
  refine awp_region ?_
  refine sq_plain rfl rfl rfl (w_move rfl (ev_tmp rfl)) ?_
  refine sq_plain rfl rfl rfl (w_move rfl (ev_tmp rfl)) ?_
  refine sq_plain rfl rfl rfl (w_llen rfl Try.underlying82 (ev_tmp rfl)) ?_
  refine sq_plain rfl rfl rfl (w_subi rfl (ev_tmp rfl) (ev_tmp rfl) (by first | omega | ((try simp only [List.length_map, List.length_take, List.length_cons, List.length_nil, chunks_len, szR] at *); omega) | (have hc2 := hc; simp only [Bool.and_eq_true, Bool.or_eq_true, Bool.or_eq_false_iff, Bool.and_eq_false_iff, Bool.not_eq_true', Bool.not_eq_false', decide_eq_true_eq, decide_eq_false_iff_not, beq_iff_eq, bne_iff_ne, List.length_map, List.length_take] at hc2; omega))) ?_
  refine sq_plain rfl rfl rfl (w_assign rfl (ev_tmp rfl)) ?_
  refine sq_nil ?_
  refine awp_seq ?_
  refine awp_seq ?_
  refine awp_region ?_
  refine sq_plain rfl rfl rfl (w_move rfl (ev_tmp rfl)) ?_
  refine sq_plain rfl rfl rfl (w_lss rfl (ev_tmp rfl) ev_ci) ?_
  refine sq_nil ?_
  refine awp_cond (ev_tmp rfl) ?_ ?_
  · intro h11
    have k11 := of_decide_eq_true h11; try simp only [List.length_map] at k11
    refine awp_seq ?_
    refine awp_region ?_
    refine sq_plain rfl rfl rfl (w_assign rfl ev_ci) ?_
    refine sq_nil ?_
    refine awp_ret ?_
    exact retR rfl (rv_tmp' rfl (by exact congrArg AV.int (by simp only [szR, sizeL, List.length_map, decide_eq_true_eq, decide_eq_false_iff_not] at *; omega)))
  · intro h11
    have k11 := of_decide_eq_false h11; try simp only [List.length_map] at k11
    refine awp_skip ?_
    refine awp_seq ?_
    refine awp_seq ?_
    refine awp_region ?_
    refine sq_plain rfl rfl rfl (w_assign rfl ev_ci) ?_
    refine sq_nil ?_
    refine awp_block ?_
    refine awp_loop_i2 [(0, _)] _ (fun (i : Nat) (b : Int) => i ≤ l.length ∧ b = left - l.length - (((l.take i).map TFeedItem.size).sum : Nat) ∧ 0 ≤ b) (fun (i : Nat) (b : Int) => []) (fun (i : Nat) (b : Int) => [(1, AV.int b), (5, AV.int i)]) (fun (i : Nat) (b : Int) => l.length - i) (0) (left - ((l.map fun x => TFeedItem.cs x).length : Int)) ?_ (le_env ⟨rfl, rfl, rfl, trivial⟩) ?_
    · exact ⟨Nat.zero_le _, by simp, by simp only [List.length_map]; omega⟩
    intro i b hinv
    refine awp_seq ?_
    refine awp_seq ?_
    refine awp_region ?_
    refine sq_plain rfl rfl rfl (w_move rfl (ev_tmp rfl)) ?_
    refine sq_plain rfl rfl rfl (w_move rfl (ev_tmp rfl)) ?_
    refine sq_plain rfl rfl rfl (w_llen rfl Try.underlying82 (ev_tmp rfl)) ?_
    refine sq_plain rfl rfl rfl (w_lss rfl (ev_tmp rfl) (ev_tmp rfl)) ?_
    refine sq_nil ?_
    refine awp_cond (ev_tmp rfl) ?_ ?_
    · intro h15
      have k15 := of_decide_eq_true h15; try simp only [List.length_map] at k15
      have hlt : i < l.length := by omega
      obtain ⟨x, hx⟩ := get_some hlt
      have e2 := sum_le TFeedItem.size l i x hx
      have hokx := hok x (List.mem_of_getElem? hx)
      refine awp_skip ?_
      refine awp_seq ?_
      refine awp_block ?_
      refine awp_seq ?_
      refine awp_region ?_
      refine sq_plain rfl rfl rfl (w_move rfl (ev_tmp rfl)) ?_
      refine sq_plain rfl rfl rfl (w_move rfl (ev_tmp rfl)) ?_
      refine sq_plain rfl rfl rfl (w_idx rfl Try.underlying82 Try.sizeOf178 (ev_tmp rfl) (ev_tmp rfl) (by omega) (by simp only [Int.toNat_natCast, List.getElem?_map, hx, Option.map_some]; try rfl)) ?_
      refine sq_plain rfl rfl rfl (w_loadE rfl (ev_tmp rfl) Try.isAgg178 Try.sizeOf178) ?_
      refine sq_plain rfl rfl rfl (w_move rfl (ev_tmp rfl)) ?_
      refine sq_plain rfl rfl rfl (w_call rfl Try.call175 rfl (szFeedItem_spec _ _ (by assumption) (by first | omega | ((try simp only [List.length_map, List.length_take, List.length_cons, List.length_nil, chunks_len, szR] at *); omega) | (have hc2 := hc; simp only [Bool.and_eq_true, Bool.or_eq_true, Bool.or_eq_false_iff, Bool.and_eq_false_iff, Bool.not_eq_true', Bool.not_eq_false', decide_eq_true_eq, decide_eq_false_iff_not, beq_iff_eq, bne_iff_ne, List.length_map, List.length_take] at hc2; omega)) (by first | omega | ((try simp only [List.length_map, List.length_take, List.length_cons, List.length_nil, chunks_len, szR] at *); omega) | (have hc2 := hc; simp only [Bool.and_eq_true, Bool.or_eq_true, Bool.or_eq_false_iff, Bool.and_eq_false_iff, Bool.not_eq_true', Bool.not_eq_false', decide_eq_true_eq, decide_eq_false_iff_not, beq_iff_eq, bne_iff_ne, List.length_map, List.length_take] at hc2; omega))) (evl_cons (ev_tmp rfl) (evl_cons (ev_tmp rfl) evl_nil))) ?_
      refine sq_plain rfl rfl rfl (w_assign rfl (ev_tmp rfl)) ?_
      refine sq_nil ?_
      refine awp_seq ?_
      refine awp_region ?_
      refine sq_plain rfl rfl rfl (w_move rfl (ev_tmp rfl)) ?_
      refine sq_plain rfl rfl rfl (w_lss rfl (ev_tmp rfl) ev_ci) ?_
      refine sq_nil ?_
      refine awp_cond (ev_tmp rfl) ?_ ?_
      · intro h25
        have k25 := of_decide_eq_true h25; try simp only [List.length_map] at k25
        refine awp_seq ?_
        refine awp_region ?_
        refine sq_plain rfl rfl rfl (w_assign rfl ev_ci) ?_
        refine sq_nil ?_
        refine awp_ret ?_
        exact retR rfl (rv_tmp' rfl (by exact congrArg AV.int (by simp only [szR, sizeL, List.length_map, decide_eq_true_eq, decide_eq_false_iff_not] at *; omega)))
      · intro h25
        have k25 := of_decide_eq_false h25; try simp only [List.length_map] at k25
        refine awp_skip ?_
        refine awp_region ?_
        refine sq_plain rfl rfl rfl (w_move rfl (ev_tmp rfl)) ?_
        refine sq_plain rfl rfl rfl (w_addi rfl (ev_tmp rfl) ev_ci (by first | omega | ((try simp only [List.length_map, List.length_take, List.length_cons, List.length_nil, chunks_len, szR] at *); omega) | (have hc2 := hc; simp only [Bool.and_eq_true, Bool.or_eq_true, Bool.or_eq_false_iff, Bool.and_eq_false_iff, Bool.not_eq_true', Bool.not_eq_false', decide_eq_true_eq, decide_eq_false_iff_not, beq_iff_eq, bne_iff_ne, List.length_map, List.length_take] at hc2; omega))) ?_
        refine sq_plain rfl rfl rfl (w_assign rfl (ev_tmp rfl)) ?_
        refine sq_nil ?_
        refine round_end2 i b (i + 1) ((szR (TFeedItem.size x) b)) ?_ ?_ (le_env ⟨rfl, rfl, rfl, trivial⟩)
        · exact ⟨by omega, by have e1 := sum_take TFeedItem.size l i x hx; simp only [szR, decide_eq_false_iff_not] at *; omega, by omega⟩
        · omega
    · intro h15
      have k15 := of_decide_eq_false h15; try simp only [List.length_map] at k15
      have hge : l.length ≤ i := by omega
      have e3 : ((l.take i).map TFeedItem.size).sum = (l.map TFeedItem.size).sum := by rw [List.take_of_length_le hge]
      refine awp_exit ?_
      refine awp_seq ?_
      refine awp_region ?_
      refine sq_plain rfl rfl rfl (w_move rfl (ev_tmp rfl)) ?_
      refine sq_plain rfl rfl rfl (w_assign rfl (ev_tmp rfl)) ?_
      refine sq_nil ?_
      refine awp_ret ?_
      exact retR rfl (rv_tmp' rfl (by exact congrArg AV.int (by simp only [szR, sizeL, List.length_map, decide_eq_true_eq, decide_eq_false_iff_not] at *; omega)))
theorem toFeedItemS_spec (l : List TFeedItem) (hs : sizeL TFeedItem.size l ≤ 1048576) : FSpec Try.prog 77 [AV.list 5 (l.map TFeedItem.cs)] (AV.list 5 (l.map TFeedItem.cs)) := by
  have hsl : l.length ≤ 1048576 := Nat.le_trans sizeL_len hs
  refine spec_of_awp Try.func77 rfl Try.ntmps77 rfl ?_
  refine awp_seq ?_
  refine awp_region ?_
  refine sq_plain rfl rfl rfl (w_assign rfl (ev_cnil (sz := 5))) ?_
  refine sq_nil ?_
  refine awp_seq ?_
  refine awp_region ?_
  refine sq_plain rfl rfl rfl (w_move rfl (ev_tmp rfl)) ?_
  refine sq_plain rfl rfl rfl (w_llen rfl Try.underlying82 (ev_tmp rfl)) ?_
  refine sq_make (by' := 56) rfl rfl rfl rfl Try.underlying87 Try.type179 rfl rfl rfl rfl rfl rfl (ev_tmp rfl) (ev_tmp rfl) (by simp only [List.length_map]; omega) (by simp only [List.length_map]; omega) ?_
  intro v7
  refine sq_plain rfl rfl rfl (w_assign rfl (ev_tmp rfl)) ?_
  refine sq_nil ?_
  refine awp_seq ?_
  refine awp_seq ?_
  refine awp_region ?_
  refine sq_plain rfl rfl rfl (w_assign rfl ev_ci) ?_
  refine sq_nil ?_
  refine awp_block ?_
  refine awp_loop_i [(0, _), (2, _), (3, _)] _ (fun (i : Nat) => i ≤ l.length) (fun (i : Nat) => [.arr v7 179 5 ((l.take i).map TFeedItem.cs ++ List.replicate (l.length - i) [AV.int 0, AV.int 0, AV.str [], AV.str [], AV.bool false])]) (fun (i : Nat) => [(4, AV.int i)]) (fun (i : Nat) => l.length - i) (0) ?_ (le_eq (by simp only [List.length_map]; rfl) ⟨rfl, rfl, rfl, rfl, trivial⟩) ?_
  · exact Nat.zero_le _
  intro i hinv
  refine awp_seq ?_
  refine awp_seq ?_
  refine awp_region ?_
  refine sq_plain rfl rfl rfl (w_move rfl (ev_tmp rfl)) ?_
  refine sq_plain rfl rfl rfl (w_move rfl (ev_tmp rfl)) ?_
  refine sq_plain rfl rfl rfl (w_llen rfl Try.underlying82 (ev_tmp rfl)) ?_
  refine sq_plain rfl rfl rfl (w_lss rfl (ev_tmp rfl) (ev_tmp rfl)) ?_
  refine sq_nil ?_
  refine awp_cond (ev_tmp rfl) ?_ ?_
  · intro h11
    have k11 := of_decide_eq_true h11; try simp only [List.length_map] at k11
    have hlt : i < l.length := by omega
    obtain ⟨x, hx⟩ := get_some hlt
    have hsx : TFeedItem.size x ≤ 1048576 := Nat.le_trans (sizeL_get hx) hs
    refine awp_skip ?_
    refine awp_seq ?_
    refine awp_block ?_
    refine awp_region ?_
    refine sq_plain rfl rfl rfl (w_move rfl (ev_tmp rfl)) ?_
    refine sq_plain rfl rfl rfl (w_move rfl (ev_tmp rfl)) ?_
    refine sq_plain rfl rfl rfl (w_move rfl (ev_tmp rfl)) ?_
    refine sq_plain rfl rfl rfl (w_move rfl (ev_tmp rfl)) ?_
    refine sq_plain rfl rfl rfl (w_idx rfl Try.underlying82 Try.sizeOf178 (ev_tmp rfl) (ev_tmp rfl) (by omega) (by simp only [Int.toNat_natCast, List.getElem?_map, hx, Option.map_some]; try rfl)) ?_
    refine sq_plain rfl rfl rfl (w_loadE rfl (ev_tmp rfl) Try.isAgg178 Try.sizeOf178) ?_
    refine sq_plain rfl rfl rfl (w_call rfl Try.call178 rfl (toFeedItem_spec _ (by first | assumption | omega | (simp only [] at *; omega))) (evl_cons (ev_tmp rfl) evl_nil)) ?_
    refine sq_plain rfl rfl rfl (w_aidx 0 rfl Try.underlying87 Try.sizeOf179 (ev_tmp rfl) rfl (ev_tmp rfl) (by omega) (by rw [fill_len hinv]; omega)) ?_
    refine sq_storeA 0 rfl rfl rfl (ev_tmp rfl) (ev_tmp rfl) (as_agg _) rfl Try.sizeOf179 rfl (by rw [fill_len hinv]; omega) ?_
    refine sq_nil ?_
    refine awp_region ?_
    refine sq_plain rfl rfl rfl (w_move rfl (ev_tmp rfl)) ?_
    refine sq_plain rfl rfl rfl (w_addi rfl (ev_tmp rfl) ev_ci (by first | omega | ((try simp only [List.length_map, List.length_take, List.length_cons, List.length_nil, chunks_len, szR] at *); omega) | (have hc2 := hc; simp only [Bool.and_eq_true, Bool.or_eq_true, Bool.or_eq_false_iff, Bool.and_eq_false_iff, Bool.not_eq_true', Bool.not_eq_false', decide_eq_true_eq, decide_eq_false_iff_not, beq_iff_eq, bne_iff_ne, List.length_map, List.length_take] at hc2; omega))) ?_
    refine sq_plain rfl rfl rfl (w_assign rfl (ev_tmp rfl)) ?_
    refine sq_nil ?_
    refine round_end i (i + 1) ?_ ?_ (le_eq (by exact congrArg (fun z => [Own.arr v7 179 5 z]) (fill_step hx)) ⟨rfl, rfl, rfl, rfl, trivial⟩)
    · omega
    · omega
  · intro h11
    have k11 := of_decide_eq_false h11; try simp only [List.length_map] at k11
    have hge : l.length ≤ i := by omega
    rw [fill_done hge]
    refine awp_exit ?_
    refine awp_seq ?_
    refine awp_region ?_
    refine sq_plain rfl rfl rfl (w_move rfl (ev_tmp rfl)) ?_
    refine sq_plain rfl rfl rfl (w_assign rfl (ev_tmp rfl)) ?_
    refine sq_nil ?_
    refine awp_ret ?_
    refine ret_seal 0 2 rfl rfl ?_
    exact retR rfl (rv_tmp' rfl (by first | rfl | (refine congrArg AV.bool ?_; simp_all; done)))
theorem eqFeedItemS_spec (a b : List TFeedItem) : FSpec Try.prog 80 [AV.list 5 (a.map TFeedItem.cs), AV.list 5 (b.map TFeedItem.cs)] (AV.bool (decide (a = b))) := by
  refine spec_of_awp Try.func80 rfl Try.ntmps80 rfl ?_
  refine awp_len (t := 0) rfl fun hl => ?_
  try simp only [List.length_map] at hl
  refine awp_seq ?_
  refine awp_region ?_
  refine sq_plain rfl rfl rfl (w_assign rfl ev_cb) ?_
  refine sq_nil ?_
  refine awp_seq ?_
  refine awp_seq ?_
  refine awp_region ?_
  refine sq_plain rfl rfl rfl (w_move rfl (ev_tmp rfl)) ?_
  refine sq_plain rfl rfl rfl (w_llen rfl Try.underlying87 (ev_tmp rfl)) ?_
  refine sq_plain rfl rfl rfl (w_move rfl (ev_tmp rfl)) ?_
  refine sq_plain rfl rfl rfl (w_llen rfl Try.underlying87 (ev_tmp rfl)) ?_
  refine sq_plain rfl rfl rfl (w_neq rfl (ev_tmp rfl) (ev_tmp rfl)) ?_
  refine sq_nil ?_
  refine awp_cond (ev_tmp rfl) ?_ ?_
  · intro h10
    have k10 := ne_of_bne h10; try simp only [List.length_map] at k10
    have hab : a ≠ b := by intro hc; subst hc; exact k10 rfl
    refine awp_seq ?_
    refine awp_region ?_
    refine sq_plain rfl rfl rfl (w_assign rfl ev_cb) ?_
    refine sq_nil ?_
    refine awp_ret ?_
    exact retR rfl (rv_tmp' rfl (by exact congrArg AV.bool (by simp [hab])))
  · intro h10
    have k10 := eq_of_bne_false h10; try simp only [List.length_map] at k10
    have heq : a.length = b.length := by omega
    refine awp_skip ?_
    refine awp_seq ?_
    refine awp_seq ?_
    refine awp_region ?_
    refine sq_plain rfl rfl rfl (w_assign rfl ev_ci) ?_
    refine sq_nil ?_
    refine awp_block ?_
    refine awp_loop_i [(0, _), (1, _)] _ (fun (i : Nat) => i ≤ a.length ∧ a.take i = b.take i) (fun (i : Nat) => []) (fun (i : Nat) => [(5, AV.int i)]) (fun (i : Nat) => a.length - i) (0) ?_ (le_env ⟨rfl, rfl, rfl, trivial⟩) ?_
    · exact ⟨Nat.zero_le _, rfl⟩
    intro i hinv
    refine awp_seq ?_
    refine awp_seq ?_
    refine awp_region ?_
    refine sq_plain rfl rfl rfl (w_move rfl (ev_tmp rfl)) ?_
    refine sq_plain rfl rfl rfl (w_move rfl (ev_tmp rfl)) ?_
    refine sq_plain rfl rfl rfl (w_llen rfl Try.underlying87 (ev_tmp rfl)) ?_
    refine sq_plain rfl rfl rfl (w_lss rfl (ev_tmp rfl) (ev_tmp rfl)) ?_
    refine sq_nil ?_
    refine awp_cond (ev_tmp rfl) ?_ ?_
    · intro h14
      have k14 := of_decide_eq_true h14; try simp only [List.length_map] at k14
      have hlt : i < a.length := by omega
      obtain ⟨x, hx⟩ := get_some hlt
      obtain ⟨y, hy⟩ := get_some (show i < b.length by omega)
      refine awp_skip ?_
      refine awp_seq ?_
      refine awp_block ?_
      refine awp_seq ?_
      refine awp_region_any (by kernel_rfl) (by kernel_rfl) rfl ?_
      refine ch_plain rfl rfl (w_move rfl (ev_tmp rfl)) ?_
      refine ch_plain rfl rfl (w_move rfl (ev_tmp rfl)) ?_
      refine ch_plain rfl rfl (w_idx rfl Try.underlying87 Try.sizeOf179 (ev_tmp rfl) (ev_tmp rfl) (by omega) (by simp only [Int.toNat_natCast, List.getElem?_map, hx, Option.map_some]; try rfl)) ?_
      refine ch_plain rfl rfl (w_loadE rfl (ev_tmp rfl) Try.isAgg179 Try.sizeOf179) ?_
      refine ch_plain rfl rfl (w_move rfl (ev_tmp rfl)) ?_
      refine ch_plain rfl rfl (w_move rfl (ev_tmp rfl)) ?_
      refine ch_plain rfl rfl (w_idx rfl Try.underlying87 Try.sizeOf179 (ev_tmp rfl) (ev_tmp rfl) (by omega) (by simp only [Int.toNat_natCast, List.getElem?_map, hy, Option.map_some]; try rfl)) ?_
      refine ch_plain rfl rfl (w_loadE rfl (ev_tmp rfl) Try.isAgg179 Try.sizeOf179) ?_
      refine ch_plain rfl rfl (w_call rfl Try.call182 rfl (eqFeedItem_spec _ _) (evl_cons (ev_tmp rfl) (evl_cons (ev_tmp rfl) evl_nil))) ?_
      refine ch_plain rfl rfl (w_not rfl (ev_tmp rfl)) ?_
      refine ch_nil ?_
      refine awp_cond (ev_tmp rfl) ?_ ?_
      · intro h26
        have hab : a ≠ b := by intro hc; subst hc; rw [hx] at hy; injection hy with hy; subst hy; simp at h26
        refine awp_seq ?_
        refine awp_region ?_
        refine sq_plain rfl rfl rfl (w_assign rfl ev_cb) ?_
        refine sq_nil ?_
        refine awp_ret ?_
        exact retR rfl (rv_tmp' rfl (by exact congrArg AV.bool (by simp [hab])))
      · intro h26
        refine awp_skip ?_
        refine awp_region ?_
        refine sq_plain rfl rfl rfl (w_move rfl (ev_tmp rfl)) ?_
        refine sq_plain rfl rfl rfl (w_addi rfl (ev_tmp rfl) ev_ci (by first | omega | ((try simp only [List.length_map, List.length_take, List.length_cons, List.length_nil, chunks_len, szR] at *); omega) | (have hc2 := hc; simp only [Bool.and_eq_true, Bool.or_eq_true, Bool.or_eq_false_iff, Bool.and_eq_false_iff, Bool.not_eq_true', Bool.not_eq_false', decide_eq_true_eq, decide_eq_false_iff_not, beq_iff_eq, bne_iff_ne, List.length_map, List.length_take] at hc2; omega))) ?_
        refine sq_plain rfl rfl rfl (w_assign rfl (ev_tmp rfl)) ?_
        refine sq_nil ?_
        refine round_end i (i + 1) ?_ ?_ (le_env ⟨rfl, rfl, rfl, trivial⟩)
        · exact ⟨by omega, take_eq_succ hinv.2 hx (by rw [hy]; congr 1; simp_all)⟩
        · omega
    · intro h14
      have k14 := of_decide_eq_false h14; try simp only [List.length_map] at k14
      have hge : a.length ≤ i := by omega
      have hab : a = b := take_eq_of heq hinv.2 hge
      refine awp_exit ?_
      refine awp_seq ?_
      refine awp_region ?_
      refine sq_plain rfl rfl rfl (w_assign rfl ev_cb) ?_
      refine sq_nil ?_
      refine awp_ret ?_
      exact retR rfl (rv_tmp' rfl (by exact congrArg AV.bool (by simp [hab])))
end Go.Proofs.Yteliahajeokciaa

set_option linter.unusedVariables false
set_option linter.unusedSimpArgs false
set_option maxRecDepth 100000
namespace Go.Proofs.Yteliahajeokciaa
open Go Go.AV Go.M
attribute [local irreducible] OpW OpA OpS AWP FSpec ESpec GSpec OpE RetOk RetOkG RvDen Le Ev GuardIs SrcIs Int.tmod IntKind.wrap bandI
theorem curNext_own (b : Nat) (code : List Int) (hcode : ByteL code) (c : TCur) (hp : c.p ≤ 8000000) : GSpec Try.prog 226 [AV.ptr b 0] [.box b 123 (curC code c)] (fun x : TCur × Int => x.1.p ≤ c.p + 1 ∧ 0 ≤ x.2 ∧ x.2 ≤ 255) (fun x => [.box b 123 (curC code x.1)]) (fun x => AV.int x.2) := by
  have hcb := hcode
  refine gspec_of_awp Try.func226 rfl Try.ntmps226 rfl ?_
  refine awp_seq ?_
  refine awp_region ?_
  refine sq_plain rfl rfl rfl (w_assign rfl ev_ci) ?_
  refine sq_nil ?_
  refine awp_seq ?_
  refine awp_region ?_
  try rw [wrapS hzb]
  refine sq_plain rfl rfl rfl (w_assign rfl ev_ci) ?_
  refine sq_nil ?_
  refine awp_seq ?_
  refine awp_seq ?_
  refine awp_region_any (by kernel_rfl) (by kernel_rfl) rfl ?_
  refine ch_plain rfl rfl (w_move rfl (ev_tmp rfl)) ?_
  refine ch_plain rfl rfl (w_nilB rfl (ev_tmp rfl)) ?_
  refine ch_plain rfl rfl (w_fldBn 1 rfl Try.underlying123 rfl Try.sizeOf3 (ev_tmp rfl) rfl) ?_
  refine ch_plain rfl rfl (w_loadB1 0 rfl (ev_tmp rfl) rfl Try.isAgg3 rfl) ?_
  refine ch_plain rfl rfl (w_move rfl (ev_tmp rfl)) ?_
  refine ch_plain rfl rfl (w_nilB rfl (ev_tmp rfl)) ?_
  refine ch_plain rfl rfl (w_fldBn 0 rfl Try.underlying123 rfl Try.sizeOf22 (ev_tmp rfl) rfl) ?_
  refine ch_plain rfl rfl (w_loadB1 0 rfl (ev_tmp rfl) rfl Try.isAgg22 rfl) ?_
  refine ch_plain rfl rfl (w_llen rfl Try.underlying22 (ev_tmp rfl)) ?_
  refine ch_plain rfl rfl (w_lss rfl (ev_tmp rfl) (ev_tmp rfl)) ?_
  refine ch_nil ?_
  refine awp_cond (ev_tmp rfl) ?_ ?_
  · intro h13
    have k13 := of_decide_eq_true h13; try simp only [List.length_map] at k13
    obtain ⟨z, hz⟩ := get_some (show c.p < code.length by omega)
    have hzb := hcb z (List.mem_of_getElem? hz)
    refine awp_region_any (by kernel_rfl) (by kernel_rfl) rfl ?_
    refine ch_plain rfl rfl (w_move rfl (ev_tmp rfl)) ?_
    refine ch_plain rfl rfl (w_nilB rfl (ev_tmp rfl)) ?_
    refine ch_plain rfl rfl (w_fldBn 0 rfl Try.underlying123 rfl Try.sizeOf22 (ev_tmp rfl) rfl) ?_
    refine ch_plain rfl rfl (w_loadB1 0 rfl (ev_tmp rfl) rfl Try.isAgg22 rfl) ?_
    refine ch_plain rfl rfl (w_move rfl (ev_tmp rfl)) ?_
    refine ch_plain rfl rfl (w_nilB rfl (ev_tmp rfl)) ?_
    refine ch_plain rfl rfl (w_fldBn 1 rfl Try.underlying123 rfl Try.sizeOf3 (ev_tmp rfl) rfl) ?_
    refine ch_plain rfl rfl (w_loadB1 0 rfl (ev_tmp rfl) rfl Try.isAgg3 rfl) ?_
    refine ch_plain rfl rfl (w_idxm rfl Try.underlying22 Try.sizeOf5 (ev_tmp rfl) (ev_tmp rfl) hz rfl) ?_
    refine ch_plain rfl rfl (w_loadE1 rfl (ev_tmp rfl) Try.isAgg5 rfl) ?_
    refine ch_plain rfl rfl (w_conv rfl (by kernel_rfl) Try.underlying3 (ev_tmp rfl)) ?_
    try rw [wrapS hzb]
    refine ch_plain rfl rfl (w_assign rfl (ev_tmp rfl)) ?_
    refine ch_nil ?_
    refine awp_seq ?_
    refine awp_region ?_
    refine sq_plain rfl rfl rfl (w_move rfl (ev_tmp rfl)) ?_
    refine sq_plain rfl rfl rfl (w_nilB rfl (ev_tmp rfl)) ?_
    refine sq_plain rfl rfl rfl (w_fldBn 1 rfl Try.underlying123 rfl Try.sizeOf3 (ev_tmp rfl) rfl) ?_
    refine sq_plain rfl rfl rfl (w_loadB1 0 rfl (ev_tmp rfl) rfl Try.isAgg3 rfl) ?_
    refine sq_plain rfl rfl rfl (w_addi rfl (ev_tmp rfl) ev_ci (by first | omega | ((try simp only [List.length_map, List.length_take, List.length_cons, List.length_nil, chunks_len, szR] at *); omega) | (have hc2 := hc; simp only [Bool.and_eq_true, Bool.or_eq_true, Bool.or_eq_false_iff, Bool.and_eq_false_iff, Bool.not_eq_true', Bool.not_eq_false', decide_eq_true_eq, decide_eq_false_iff_not, beq_iff_eq, bne_iff_ne, List.length_map, List.length_take] at hc2; omega))) ?_
    refine sq_plain rfl rfl rfl (w_nilB rfl (ev_tmp rfl)) ?_
    refine sq_plain rfl rfl rfl (w_fldBn 1 rfl Try.underlying123 rfl Try.sizeOf3 (ev_tmp rfl) rfl) ?_
    refine sq_storeB1 0 rfl rfl rfl (ev_tmp rfl) (ev_tmp rfl) (as_ik _ _) rfl Try.sizeOf3 rfl ?_
    refine sq_nil ?_
    refine awp_seq ?_
    refine awp_region ?_
    refine sq_plain rfl rfl rfl (w_move rfl (ev_tmp rfl)) ?_
    refine sq_plain rfl rfl rfl (w_move rfl (ev_tmp rfl)) ?_
    refine sq_plain rfl rfl rfl (w_nilB rfl (ev_tmp rfl)) ?_
    refine sq_plain rfl rfl rfl (w_fldBn 2 rfl Try.underlying123 rfl Try.sizeOf121 (ev_tmp rfl) rfl) ?_
    refine sq_plain rfl rfl rfl (w_loadB1 0 rfl (ev_tmp rfl) rfl Try.isAgg121 rfl) ?_
    refine sq_plain rfl rfl rfl (w_mul rfl (ev_tmp rfl) ev_ci) ?_
    refine sq_plain rfl rfl rfl (w_move rfl (ev_tmp rfl)) ?_
    refine sq_plain rfl rfl rfl (w_conv rfl (by kernel_rfl) Try.underlying121 (ev_tmp rfl)) ?_
    refine sq_plain rfl rfl rfl (w_add rfl (ev_tmp rfl) (ev_tmp rfl)) ?_
    refine sq_plain rfl rfl rfl (w_add rfl (ev_tmp rfl) ev_ci) ?_
    refine sq_plain rfl rfl rfl (w_nilB rfl (ev_tmp rfl)) ?_
    refine sq_plain rfl rfl rfl (w_fldBn 2 rfl Try.underlying123 rfl Try.sizeOf121 (ev_tmp rfl) rfl) ?_
    refine sq_storeB1 0 rfl rfl rfl (ev_tmp rfl) (ev_tmp rfl) (as_ik _ _) rfl Try.sizeOf121 rfl ?_
    refine sq_nil ?_
    refine awp_seq ?_
    refine awp_seq ?_
    refine awp_region_any (by kernel_rfl) (by kernel_rfl) rfl ?_
    refine ch_plain rfl rfl (w_move rfl (ev_tmp rfl)) ?_
    refine ch_plain rfl rfl (w_nilB rfl (ev_tmp rfl)) ?_
    refine ch_plain rfl rfl (w_fldBn 1 rfl Try.underlying123 rfl Try.sizeOf3 (ev_tmp rfl) rfl) ?_
    refine ch_plain rfl rfl (w_loadB1 0 rfl (ev_tmp rfl) rfl Try.isAgg3 rfl) ?_
    refine ch_plain rfl rfl (w_move rfl (ev_tmp rfl)) ?_
    refine ch_plain rfl rfl (w_nilB rfl (ev_tmp rfl)) ?_
    refine ch_plain rfl rfl (w_fldBn 0 rfl Try.underlying123 rfl Try.sizeOf22 (ev_tmp rfl) rfl) ?_
    refine ch_plain rfl rfl (w_loadB1 0 rfl (ev_tmp rfl) rfl Try.isAgg22 rfl) ?_
    refine ch_plain rfl rfl (w_llen rfl Try.underlying22 (ev_tmp rfl)) ?_
    refine ch_plain rfl rfl (w_leq rfl (ev_tmp rfl) (ev_tmp rfl)) ?_
    refine ch_nil ?_
    refine awp_cond (ev_tmp rfl) ?_ ?_
    · intro h53
      have k53 := of_decide_eq_true h53; try simp only [List.length_map] at k53
      refine awp_seq ?_
      refine awp_region ?_
      refine sq_plain rfl rfl rfl (w_move rfl (ev_tmp rfl)) ?_
      refine sq_plain rfl rfl rfl (w_assign rfl (ev_tmp rfl)) ?_
      refine sq_nil ?_
      refine awp_ret ?_
      (refine retG [0] ((⟨c.p + 1, _⟩, _)) ?_ rfl (by first | (dsimp only; rfl) | rfl) (resR rfl (rv_tmp' rfl (by first | rfl | (refine congrArg AV.bool ?_; simp_all; done)))); first | exact ⟨Nat.le_refl _, hzb⟩ | exact ⟨Nat.le_refl _, Int.le_refl 0, (show (0 : Int) ≤ 255 by decide)⟩ | (rw [wrapS (bandI_255 _)]; exact ⟨Nat.le_refl _, bandI_255 _⟩))
    · intro h53
      have k53 := of_decide_eq_false h53; try simp only [List.length_map] at k53
      refine awp_skip ?_
      refine awp_seq ?_
      refine awp_region ?_
      refine sq_plain rfl rfl rfl (w_move rfl (ev_tmp rfl)) ?_
      refine sq_plain rfl rfl rfl (w_nilB rfl (ev_tmp rfl)) ?_
      refine sq_plain rfl rfl rfl (w_fldBn 2 rfl Try.underlying123 rfl Try.sizeOf121 (ev_tmp rfl) rfl) ?_
      refine sq_plain rfl rfl rfl (w_loadB1 0 rfl (ev_tmp rfl) rfl Try.isAgg121 rfl) ?_
      refine sq_plain rfl rfl rfl (w_shr rfl (ev_tmp rfl) ev_ci (by decide) (by decide)) ?_
      refine sq_plain rfl rfl rfl (w_band rfl (ev_tmp rfl) ev_ci) ?_
      refine sq_plain rfl rfl rfl (w_conv rfl (by kernel_rfl) Try.underlying3 (ev_tmp rfl)) ?_
      refine sq_plain rfl rfl rfl (w_assign rfl (ev_tmp rfl)) ?_
      refine sq_nil ?_
      refine awp_ret ?_
      (refine retG [0] ((⟨c.p + 1, _⟩, _)) ?_ rfl (by first | (dsimp only; rfl) | rfl) (resR rfl (rv_tmp' rfl (by first | rfl | (refine congrArg AV.bool ?_; simp_all; done)))); first | exact ⟨Nat.le_refl _, hzb⟩ | exact ⟨Nat.le_refl _, Int.le_refl 0, (show (0 : Int) ≤ 255 by decide)⟩ | (rw [wrapS (bandI_255 _)]; exact ⟨Nat.le_refl _, bandI_255 _⟩))
  · intro h13
    have k13 := of_decide_eq_false h13; try simp only [List.length_map] at k13
    refine awp_skip ?_
    refine awp_seq ?_
    refine awp_region ?_
    refine sq_plain rfl rfl rfl (w_move rfl (ev_tmp rfl)) ?_
    refine sq_plain rfl rfl rfl (w_nilB rfl (ev_tmp rfl)) ?_
    refine sq_plain rfl rfl rfl (w_fldBn 1 rfl Try.underlying123 rfl Try.sizeOf3 (ev_tmp rfl) rfl) ?_
    refine sq_plain rfl rfl rfl (w_loadB1 0 rfl (ev_tmp rfl) rfl Try.isAgg3 rfl) ?_
    refine sq_plain rfl rfl rfl (w_addi rfl (ev_tmp rfl) ev_ci (by first | omega | ((try simp only [List.length_map, List.length_take, List.length_cons, List.length_nil, chunks_len, szR] at *); omega) | (have hc2 := hc; simp only [Bool.and_eq_true, Bool.or_eq_true, Bool.or_eq_false_iff, Bool.and_eq_false_iff, Bool.not_eq_true', Bool.not_eq_false', decide_eq_true_eq, decide_eq_false_iff_not, beq_iff_eq, bne_iff_ne, List.length_map, List.length_take] at hc2; omega))) ?_
    refine sq_plain rfl rfl rfl (w_nilB rfl (ev_tmp rfl)) ?_
    refine sq_plain rfl rfl rfl (w_fldBn 1 rfl Try.underlying123 rfl Try.sizeOf3 (ev_tmp rfl) rfl) ?_
    refine sq_storeB1 0 rfl rfl rfl (ev_tmp rfl) (ev_tmp rfl) (as_ik _ _) rfl Try.sizeOf3 rfl ?_
    refine sq_nil ?_
    refine awp_seq ?_
    refine awp_region ?_
    refine sq_plain rfl rfl rfl (w_move rfl (ev_tmp rfl)) ?_
    refine sq_plain rfl rfl rfl (w_move rfl (ev_tmp rfl)) ?_
    refine sq_plain rfl rfl rfl (w_nilB rfl (ev_tmp rfl)) ?_
    refine sq_plain rfl rfl rfl (w_fldBn 2 rfl Try.underlying123 rfl Try.sizeOf121 (ev_tmp rfl) rfl) ?_
    refine sq_plain rfl rfl rfl (w_loadB1 0 rfl (ev_tmp rfl) rfl Try.isAgg121 rfl) ?_
    refine sq_plain rfl rfl rfl (w_mul rfl (ev_tmp rfl) ev_ci) ?_
    refine sq_plain rfl rfl rfl (w_move rfl (ev_tmp rfl)) ?_
    refine sq_plain rfl rfl rfl (w_conv rfl (by kernel_rfl) Try.underlying121 (ev_tmp rfl)) ?_
    refine sq_plain rfl rfl rfl (w_add rfl (ev_tmp rfl) (ev_tmp rfl)) ?_
    refine sq_plain rfl rfl rfl (w_add rfl (ev_tmp rfl) ev_ci) ?_
    refine sq_plain rfl rfl rfl (w_nilB rfl (ev_tmp rfl)) ?_
    refine sq_plain rfl rfl rfl (w_fldBn 2 rfl Try.underlying123 rfl Try.sizeOf121 (ev_tmp rfl) rfl) ?_
    refine sq_storeB1 0 rfl rfl rfl (ev_tmp rfl) (ev_tmp rfl) (as_ik _ _) rfl Try.sizeOf121 rfl ?_
    refine sq_nil ?_
    refine awp_seq ?_
    refine awp_seq ?_
    refine awp_region_any (by kernel_rfl) (by kernel_rfl) rfl ?_
    refine ch_plain rfl rfl (w_move rfl (ev_tmp rfl)) ?_
    refine ch_plain rfl rfl (w_nilB rfl (ev_tmp rfl)) ?_
    refine ch_plain rfl rfl (w_fldBn 1 rfl Try.underlying123 rfl Try.sizeOf3 (ev_tmp rfl) rfl) ?_
    refine ch_plain rfl rfl (w_loadB1 0 rfl (ev_tmp rfl) rfl Try.isAgg3 rfl) ?_
    refine ch_plain rfl rfl (w_move rfl (ev_tmp rfl)) ?_
    refine ch_plain rfl rfl (w_nilB rfl (ev_tmp rfl)) ?_
    refine ch_plain rfl rfl (w_fldBn 0 rfl Try.underlying123 rfl Try.sizeOf22 (ev_tmp rfl) rfl) ?_
    refine ch_plain rfl rfl (w_loadB1 0 rfl (ev_tmp rfl) rfl Try.isAgg22 rfl) ?_
    refine ch_plain rfl rfl (w_llen rfl Try.underlying22 (ev_tmp rfl)) ?_
    refine ch_plain rfl rfl (w_leq rfl (ev_tmp rfl) (ev_tmp rfl)) ?_
    refine ch_nil ?_
    refine awp_cond (ev_tmp rfl) ?_ ?_
    · intro h53
      have k53 := of_decide_eq_true h53; try simp only [List.length_map] at k53
      refine awp_seq ?_
      refine awp_region ?_
      refine sq_plain rfl rfl rfl (w_move rfl (ev_tmp rfl)) ?_
      refine sq_plain rfl rfl rfl (w_assign rfl (ev_tmp rfl)) ?_
      refine sq_nil ?_
      refine awp_ret ?_
      (refine retG [0] ((⟨c.p + 1, _⟩, _)) ?_ rfl (by first | (dsimp only; rfl) | rfl) (resR rfl (rv_tmp' rfl (by first | rfl | (refine congrArg AV.bool ?_; simp_all; done)))); first | exact ⟨Nat.le_refl _, hzb⟩ | exact ⟨Nat.le_refl _, Int.le_refl 0, (show (0 : Int) ≤ 255 by decide)⟩ | (rw [wrapS (bandI_255 _)]; exact ⟨Nat.le_refl _, bandI_255 _⟩))
    · intro h53
      have k53 := of_decide_eq_false h53; try simp only [List.length_map] at k53
      refine awp_skip ?_
      refine awp_seq ?_
      refine awp_region ?_
      refine sq_plain rfl rfl rfl (w_move rfl (ev_tmp rfl)) ?_
      refine sq_plain rfl rfl rfl (w_nilB rfl (ev_tmp rfl)) ?_
      refine sq_plain rfl rfl rfl (w_fldBn 2 rfl Try.underlying123 rfl Try.sizeOf121 (ev_tmp rfl) rfl) ?_
      refine sq_plain rfl rfl rfl (w_loadB1 0 rfl (ev_tmp rfl) rfl Try.isAgg121 rfl) ?_
      refine sq_plain rfl rfl rfl (w_shr rfl (ev_tmp rfl) ev_ci (by decide) (by decide)) ?_
      refine sq_plain rfl rfl rfl (w_band rfl (ev_tmp rfl) ev_ci) ?_
      refine sq_plain rfl rfl rfl (w_conv rfl (by kernel_rfl) Try.underlying3 (ev_tmp rfl)) ?_
      refine sq_plain rfl rfl rfl (w_assign rfl (ev_tmp rfl)) ?_
      refine sq_nil ?_
      refine awp_ret ?_
      (refine retG [0] ((⟨c.p + 1, _⟩, _)) ?_ rfl (by first | (dsimp only; rfl) | rfl) (resR rfl (rv_tmp' rfl (by first | rfl | (refine congrArg AV.bool ?_; simp_all; done)))); first | exact ⟨Nat.le_refl _, hzb⟩ | exact ⟨Nat.le_refl _, Int.le_refl 0, (show (0 : Int) ≤ 255 by decide)⟩ | (rw [wrapS (bandI_255 _)]; exact ⟨Nat.le_refl _, bandI_255 _⟩))
theorem curPick_own (b : Nat) (code : List Int) (hcode : ByteL code) (c : TCur) (n : Int) (hn : n ≤ 1000000) (hp : c.p ≤ 7000000) : GSpec Try.prog 131 [AV.ptr b 0, AV.int n] [.box b 123 (curC code c)] (fun x : TCur × Int => x.1.p ≤ c.p + 2 ∧ 0 ≤ x.2 ∧ (x.2 < n ∨ x.2 = 0)) (fun x => [.box b 123 (curC code x.1)]) (fun x => AV.int x.2) := by
  refine gspec_of_awp Try.func131 rfl Try.ntmps131 rfl ?_
  refine awp_seq ?_
  refine awp_region ?_
  refine sq_plain rfl rfl rfl (w_assign rfl ev_ci) ?_
  refine sq_nil ?_
  refine awp_seq ?_
  refine awp_seq ?_
  refine awp_region ?_
  refine sq_plain rfl rfl rfl (w_move rfl (ev_tmp rfl)) ?_
  refine sq_plain rfl rfl rfl (w_leq rfl (ev_tmp rfl) ev_ci) ?_
  refine sq_nil ?_
  refine awp_cond (ev_tmp rfl) ?_ ?_
  · intro h7
    have k7 := of_decide_eq_true h7; try simp only [List.length_map] at k7
    refine awp_seq ?_
    refine awp_region ?_
    refine sq_plain rfl rfl rfl (w_assign rfl ev_ci) ?_
    refine sq_nil ?_
    refine awp_ret ?_
    (refine retG [0] ((_, _)) ?_ rfl (by first | (dsimp only; rfl) | rfl) (resR rfl (rv_tmp' rfl (by first | rfl | (refine congrArg AV.bool ?_; simp_all; done)))); (dsimp only; first | omega | exact ⟨by omega, Int.tmod_nonneg _ (by omega), .inl (Int.tmod_lt_of_pos _ (by omega))⟩))
  · intro h7
    have k7 := of_decide_eq_false h7; try simp only [List.length_map] at k7
    refine awp_skip ?_
    refine awp_seq ?_
    refine awp_region ?_
    refine sq_plain rfl rfl rfl (w_move rfl (ev_tmp rfl)) ?_
    refine sq_callG [0] rfl rfl rfl rfl Try.call226 rfl (curNext_own _ _ hcode _ (by omega)) (evl_cons (ev_tmp rfl) evl_nil) rfl ?_
    intro x9 ok9
    refine sq_plain rfl rfl rfl (w_assign rfl (ev_tmp rfl)) ?_
    refine sq_nil ?_
    refine awp_seq ?_
    refine awp_seq ?_
    refine awp_region ?_
    refine sq_plain rfl rfl rfl (w_move rfl (ev_tmp rfl)) ?_
    refine sq_plain rfl rfl rfl (w_gtr rfl (ev_tmp rfl) ev_ci) ?_
    refine sq_nil ?_
    refine awp_cond (ev_tmp rfl) ?_ ?_
    · intro h11
      have k11 := of_decide_eq_true h11; try simp only [List.length_map] at k11
      refine awp_region ?_
      refine sq_plain rfl rfl rfl (w_move rfl (ev_tmp rfl)) ?_
      refine sq_plain rfl rfl rfl (w_muli rfl (ev_tmp rfl) ev_ci (by first | omega | ((try simp only [List.length_map, List.length_take, List.length_cons, List.length_nil, chunks_len, szR] at *); omega) | (have hc2 := hc; simp only [Bool.and_eq_true, Bool.or_eq_true, Bool.or_eq_false_iff, Bool.and_eq_false_iff, Bool.not_eq_true', Bool.not_eq_false', decide_eq_true_eq, decide_eq_false_iff_not, beq_iff_eq, bne_iff_ne, List.length_map, List.length_take] at hc2; omega))) ?_
      refine sq_plain rfl rfl rfl (w_move rfl (ev_tmp rfl)) ?_
      refine sq_callG [0] rfl rfl rfl rfl Try.call226 rfl (curNext_own _ _ hcode _ (by omega)) (evl_cons (ev_tmp rfl) evl_nil) rfl ?_
      intro x15 ok15
      refine sq_plain rfl rfl rfl (w_addi rfl (ev_tmp rfl) (ev_tmp rfl) (by first | omega | ((try simp only [List.length_map, List.length_take, List.length_cons, List.length_nil, chunks_len, szR] at *); omega) | (have hc2 := hc; simp only [Bool.and_eq_true, Bool.or_eq_true, Bool.or_eq_false_iff, Bool.and_eq_false_iff, Bool.not_eq_true', Bool.not_eq_false', decide_eq_true_eq, decide_eq_false_iff_not, beq_iff_eq, bne_iff_ne, List.length_map, List.length_take] at hc2; omega))) ?_
      refine sq_plain rfl rfl rfl (w_assign rfl (ev_tmp rfl)) ?_
      refine sq_nil ?_
      refine awp_seq ?_
      refine awp_region ?_
      refine sq_plain rfl rfl rfl (w_move rfl (ev_tmp rfl)) ?_
      refine sq_plain rfl rfl rfl (w_move rfl (ev_tmp rfl)) ?_
      refine sq_plain rfl rfl rfl (w_rem rfl (ev_tmp rfl) (ev_tmp rfl) (by omega)) ?_
      refine sq_plain rfl rfl rfl (w_assign rfl (ev_tmp rfl)) ?_
      refine sq_nil ?_
      refine awp_ret ?_
      (refine retG [0] ((_, _)) ?_ rfl (by first | (dsimp only; rfl) | rfl) (resR rfl (rv_tmp' rfl (by first | rfl | (refine congrArg AV.bool ?_; simp_all; done)))); (dsimp only; first | omega | exact ⟨by omega, Int.tmod_nonneg _ (by omega), .inl (Int.tmod_lt_of_pos _ (by omega))⟩))
    · intro h11
      have k11 := of_decide_eq_false h11; try simp only [List.length_map] at k11
      refine awp_skip ?_
      refine awp_seq ?_
      refine awp_region ?_
      refine sq_plain rfl rfl rfl (w_move rfl (ev_tmp rfl)) ?_
      refine sq_plain rfl rfl rfl (w_move rfl (ev_tmp rfl)) ?_
      refine sq_plain rfl rfl rfl (w_rem rfl (ev_tmp rfl) (ev_tmp rfl) (by omega)) ?_
      refine sq_plain rfl rfl rfl (w_assign rfl (ev_tmp rfl)) ?_
      refine sq_nil ?_
      refine awp_ret ?_
      (refine retG [0] ((_, _)) ?_ rfl (by first | (dsimp only; rfl) | rfl) (resR rfl (rv_tmp' rfl (by first | rfl | (refine congrArg AV.bool ?_; simp_all; done)))); (dsimp only; first | omega | exact ⟨by omega, Int.tmod_nonneg _ (by omega), .inl (Int.tmod_lt_of_pos _ (by omega))⟩))
theorem curOne_own (b : Nat) (code : List Int) (hcode : ByteL code) (c : TCur) (n : Int) (hn : n ≤ 1000000) (hp : c.p ≤ 7000000) : GSpec Try.prog 170 [AV.ptr b 0, AV.int n] [.box b 123 (curC code c)] (fun x : TCur × Bool => x.1.p ≤ c.p + 2) (fun x => [.box b 123 (curC code x.1)]) (fun x => AV.bool x.2) := by
  refine gspec_of_awp Try.func170 rfl Try.ntmps170 rfl ?_
  refine awp_seq ?_
  refine awp_region ?_
  refine sq_plain rfl rfl rfl (w_assign rfl ev_cb) ?_
  refine sq_nil ?_
  refine awp_seq ?_
  refine awp_region ?_
  refine sq_plain rfl rfl rfl (w_move rfl (ev_tmp rfl)) ?_
  refine sq_plain rfl rfl rfl (w_move rfl (ev_tmp rfl)) ?_
  refine sq_callG [0] rfl rfl rfl rfl Try.call131 rfl (curPick_own _ _ hcode _ _ (by omega) (by omega)) (evl_cons (ev_tmp rfl) (evl_cons (ev_tmp rfl) evl_nil)) rfl ?_
  intro x7 ok7
  refine sq_plain rfl rfl rfl (w_eql rfl (ev_tmp rfl) ev_ci) ?_
  refine sq_plain rfl rfl rfl (w_assign rfl (ev_tmp rfl)) ?_
  refine sq_nil ?_
  refine awp_ret ?_
  (refine retG [0] ((_, _)) ?_ rfl (by first | (dsimp only; rfl) | rfl) (resR rfl (rv_tmp' rfl (by rfl))); exact ok7.1)
theorem curOf_own (b : Nat) (code : List Int) (hcode : ByteL code) (c : TCur) (l : List Str) (hl : (∀ s ∈ l, s.length ≤ 64) ∧ 1 ≤ l.length ∧ l.length ≤ 1000) (hp : c.p ≤ 7000000) : GSpec Try.prog 113 [AV.ptr b 0, strs l] [.box b 123 (curC code c)] (fun x : TCur × Str => x.1.p ≤ c.p + 2 ∧ x.2.length ≤ 64) (fun x => [.box b 123 (curC code x.1)]) (fun x => AV.str x.2) := by
  obtain ⟨hls, hl1, hl2⟩ := hl
  refine gspec_of_awp Try.func113 rfl Try.ntmps113 rfl ?_
  refine awp_seq ?_
  refine awp_region ?_
  refine sq_plain rfl rfl rfl (w_assign rfl (ev_cs' (l := []) rfl)) ?_
  refine sq_nil ?_
  refine awp_seq ?_
  refine awp_region ?_
  refine sq_plain rfl rfl rfl (w_move rfl (ev_tmp rfl)) ?_
  refine sq_plain rfl rfl rfl (w_move rfl (ev_tmp rfl)) ?_
  refine sq_plain rfl rfl rfl (w_move rfl (ev_tmp rfl)) ?_
  refine sq_plain rfl rfl rfl (w_llen rfl Try.underlying29 (ev_tmp rfl)) ?_
  refine sq_callG [0] rfl rfl rfl rfl Try.call131 rfl (curPick_own _ _ hcode _ _ (by simp only [List.length_map]; omega) (by omega)) (evl_cons (ev_tmp rfl) (evl_cons (ev_tmp rfl) evl_nil)) rfl ?_
  intro x9 ok9
  simp only [List.length_map] at ok9
  obtain ⟨y, hy⟩ := get_some (show x9.2.toNat < l.length by omega)
  refine sq_plain rfl rfl rfl (w_idxm rfl Try.underlying29 Try.sizeOf9 (ev_tmp rfl) (ev_tmp rfl) hy (by omega)) ?_
  refine sq_plain rfl rfl rfl (w_loadE1 rfl (ev_tmp rfl) Try.isAgg9 rfl) ?_
  refine sq_plain rfl rfl rfl (w_assign rfl (ev_tmp rfl)) ?_
  refine sq_nil ?_
  refine awp_ret ?_
  (refine retG [0] ((_, _)) ?_ rfl (by first | (dsimp only; rfl) | rfl) (resR rfl (rv_tmp' rfl (by rfl))); exact ⟨ok9.1, hls _ (List.mem_of_getElem? hy)⟩)
theorem curAmong_own (b : Nat) (code : List Int) (hcode : ByteL code) (c : TCur) (l : List Int) (hl : 1 ≤ l.length ∧ l.length ≤ 1000) (hp : c.p ≤ 7000000) : GSpec Try.prog 107 [AV.ptr b 0, ints l] [.box b 123 (curC code c)] (fun x : TCur × Int => x.1.p ≤ c.p + 2 ∧ x.2 ∈ l) (fun x => [.box b 123 (curC code x.1)]) (fun x => AV.int x.2) := by
  obtain ⟨hl1, hl2⟩ := hl
  refine gspec_of_awp Try.func107 rfl Try.ntmps107 rfl ?_
  refine awp_seq ?_
  refine awp_region ?_
  refine sq_plain rfl rfl rfl (w_assign rfl ev_ci) ?_
  refine sq_nil ?_
  refine awp_seq ?_
  refine awp_region ?_
  refine sq_plain rfl rfl rfl (w_move rfl (ev_tmp rfl)) ?_
  refine sq_plain rfl rfl rfl (w_move rfl (ev_tmp rfl)) ?_
  refine sq_plain rfl rfl rfl (w_move rfl (ev_tmp rfl)) ?_
  refine sq_plain rfl rfl rfl (w_llen rfl Try.underlying94 (ev_tmp rfl)) ?_
  refine sq_callG [0] rfl rfl rfl rfl Try.call131 rfl (curPick_own _ _ hcode _ _ (by simp only [List.length_map]; omega) (by omega)) (evl_cons (ev_tmp rfl) (evl_cons (ev_tmp rfl) evl_nil)) rfl ?_
  intro x9 ok9
  simp only [List.length_map] at ok9
  obtain ⟨y, hy⟩ := get_some (show x9.2.toNat < l.length by omega)
  refine sq_plain rfl rfl rfl (w_idxm rfl Try.underlying94 Try.sizeOf3 (ev_tmp rfl) (ev_tmp rfl) hy (by omega)) ?_
  refine sq_plain rfl rfl rfl (w_loadE1 rfl (ev_tmp rfl) Try.isAgg3 rfl) ?_
  refine sq_plain rfl rfl rfl (w_assign rfl (ev_tmp rfl)) ?_
  refine sq_nil ?_
  refine awp_ret ?_
  (refine retG [0] ((_, _)) ?_ rfl (by first | (dsimp only; rfl) | rfl) (resR rfl (rv_tmp' rfl (by rfl))); exact ⟨ok9.1, List.mem_of_getElem? hy⟩)
theorem curKey_own (b : Nat) (code : List Int) (hcode : ByteL code) (c : TCur) (hp : c.p ≤ 6000000) : GSpec Try.prog 165 [AV.ptr b 0] [.box b 123 (curC code c)] (fun x : TCur × Str => x.1.p ≤ c.p + 2 ∧ x.2.length ≤ 64) (fun x => [.box b 123 (curC code x.1)]) (fun x => AV.str x.2) := by
  refine gspec_of_awp Try.func165 rfl Try.ntmps165 rfl ?_
  refine awp_seq ?_
  refine awp_region ?_
  refine sq_plain rfl rfl rfl (w_assign rfl (ev_cs' (l := []) rfl)) ?_
  refine sq_nil ?_
  refine awp_seq ?_
  refine awp_region ?_
  refine sq_plain rfl rfl rfl (w_move rfl (ev_tmp rfl)) ?_
  refine sq_plain rfl rfl rfl (w_bslice rfl Try.underlying29 Try.sizeOf9 Try.zeroValue9 rfl rfl rfl rfl (bp_cons (ev_cs' (l := [97]) rfl) (as_str _) (bp_cons (ev_cs' (l := [98]) rfl) (as_str _) (bp_cons (ev_cs' (l := [99]) rfl) (as_str _) (bp_cons (ev_cs' (l := [109]) rfl) (as_str _) (bp_cons (ev_cs' (l := [110]) rfl) (as_str _) (bp_cons (ev_cs' (l := [122]) rfl) (as_str _) (bp_cons (ev_cs' (l := [114, 47, 49]) rfl) (as_str _) (bp_cons (ev_cs' (l := [105, 47, 120, 47, 49]) rfl) (as_str _) bp_nil)))))))) rfl rfl) ?_
  refine sq_callG [0] rfl rfl rfl rfl Try.call113 rfl (curOf_own _ _ hcode _ ([[97], [98], [99], [109], [110], [122], [114, 47, 49], [105, 47, 120, 47, 49]] : List Str) (by decide) (by omega)) (evl_cons (ev_tmp rfl) (evl_cons (ev_tmp rfl) evl_nil)) rfl ?_
  intro x5 ok5
  refine sq_plain rfl rfl rfl (w_assign rfl (ev_tmp rfl)) ?_
  refine sq_nil ?_
  refine awp_ret ?_
  (refine retG [0] ((_, _)) ?_ rfl (by first | (dsimp only; rfl) | rfl) (resR rfl (rv_tmp' rfl (by rfl))); exact ok5)
end Go.Proofs.Yteliahajeokciaa

namespace Go.M

def within (n lo hi : Int) : Bool := decide (lo ≤ n) && decide (n ≤ hi)
def lowDig (b : UInt8) : Bool := (decide ((97 : Int) ≤ (b.toNat : Int)) && decide ((b.toNat : Int) ≤ 122)) || (decide ((48 : Int) ≤ (b.toNat : Int)) && decide ((b.toNat : Int) ≤ 57))
def idxB (s : Str) (c : UInt8) : Int := firstIdx ⟨s.toArray⟩ c
def hasB (s o : Str) : Bool := s.all fun c => !(!lowDig c && decide (idxB o c < 0))
def goodKey (s : Str) : Bool := within s.length 1 12 && hasB s [46, 47]
def goodVal (s : Str) : Bool := decide ((s.length : Int) ≤ 24) && hasB s [46, 45, 44, 95]
def l3Bytes (s o : Str) : Bool := s.all fun c => (lowDig c || o.any fun d => ((c.toNat : Int) == (d.toNat : Int)))
def l3Key (s : Str) : Bool := within s.length 1 12 && l3Bytes s [46, 47]
theorem hasB_cons (c : UInt8) (s o : Str) : hasB (c :: s) o = (!(!lowDig c && decide (idxB o c < 0)) && hasB s o) := rfl
theorem l3Bytes_cons (c : UInt8) (s o : Str) : l3Bytes (c :: s) o = ((lowDig c || o.any fun d => ((c.toNat : Int) == (d.toNat : Int))) && l3Bytes s o) := rfl
end Go.M

namespace Go.M
def sLt (a b : Str) : Bool := Op.bytesLess a b
def areEnds (low high : Str) : Bool := (low == [] || goodKey low) && (high == [] || goodKey high && !(Op.bytesLess high low || high == low))
def inRange (low high key : Str) : Bool := !Op.bytesLess key low && (high == [] || Op.bytesLess key high)
def l22Ends (low high : Str) : Bool := (low == [] || l3Key low) && (high == [] || l3Key high && Op.bytesLess low high)
def isWithin (low high key : Str) : Bool × Bool := if !areEnds low high || !goodKey key then (false, false) else (inRange low high key, true)
def isWithinS (low high key : Str) : Bool × Bool := if !l22Ends low high || !l3Key key then (false, false) else (inRange low high key, true)
end Go.M

set_option linter.unusedSimpArgs false
set_option linter.unusedVariables false
namespace Go.M
theorem idxB_neg (o : Str) (c : UInt8) : decide (idxB o c < 0) = !(o.any fun d => ((c.toNat : Int) == (d.toNat : Int))) := by
  have hm : (o.any fun d => ((c.toNat : Int) == (d.toNat : Int))) = decide (c ∈ o) := by
    rw [Bool.eq_iff_iff]
    simp only [List.any_eq_true, beq_iff_eq, decide_eq_true_eq]
    constructor
    · rintro ⟨d, hd, he⟩
      have : c = d := UInt8.toNat_inj.1 (by exact_mod_cast he)
      exact this ▸ hd
    · intro h; exact ⟨c, h, rfl⟩
  rw [hm]
  unfold idxB firstIdx
  have hsz : (ByteArray.mk o.toArray).size = o.length := by simp [ByteArray.size]
  have hget : ∀ i, i < o.length → (ByteArray.mk o.toArray)[i]! = o[i]! := fun i hi => by
    simp [getElem!_def, ByteArray.getElem?_lt', hsz, hi]
    rfl
  rw [hsz]
  cases hf : (List.range o.length).find? fun i => (ByteArray.mk o.toArray)[i]! == c with
  | some i =>
    have h1 := List.find?_some hf
    have h2 := List.mem_range.1 (List.mem_of_find?_eq_some hf)
    rw [hget i h2] at h1
    have h3 : c ∈ o := by
      have : o[i]! = c := by simpa using h1
      rw [← this, getElem!_pos o i h2]
      exact List.getElem_mem h2
    simp [h3]
  | none =>
    have h1 := List.find?_eq_none.1 hf
    have h3 : ¬ c ∈ o := fun hm => by
      obtain ⟨i, hi, he⟩ := List.getElem_of_mem hm
      have := h1 i (List.mem_range.2 hi)
      rw [hget i hi, getElem!_pos o i hi, he] at this
      simp at this
    simp [h3]
theorem hasB_eq (s o : Str) : hasB s o = l3Bytes s o := by
  unfold hasB l3Bytes
  congr 1
  funext c
  rw [idxB_neg]
  cases lowDig c <;> simp
theorem goodKey_eq (s : Str) : goodKey s = l3Key s := by unfold goodKey l3Key; rw [hasB_eq]
theorem bytesLess_irrefl : ∀ a : Str, Op.bytesLess a a = false
  | [] => rfl
  | a :: x => by simp [Op.bytesLess, bytesLess_irrefl x]
theorem bytesLess_tri : ∀ a b : Str, Op.bytesLess a b = !(Op.bytesLess b a || b == a)
  | [], [] => rfl
  | [], _ :: _ => rfl
  | _ :: _, [] => rfl
  | a :: x, b :: y => by
    have ih := bytesLess_tri x y
    simp only [Op.bytesLess]
    by_cases hab : a = b
    · subst hab
      simp [ih]
    · have h1 : (a == b) = false := by simpa using hab
      have h2 : (b == a) = false := by simpa using fun h => hab h.symm
      have h3 : (b :: y == a :: x) = false := by simp [h2]
      simp only [h1, h2, h3, Bool.false_and, Bool.or_false]
      rw [Bool.eq_iff_iff]
      simp only [decide_eq_true_eq, Bool.not_eq_true', decide_eq_false_iff_not, UInt8.not_lt]
      constructor
      · exact UInt8.le_of_lt
      · exact fun h => UInt8.lt_of_le_of_ne h hab
theorem areEnds_eq (low high : Str) : areEnds low high = l22Ends low high := by
  unfold areEnds l22Ends
  rw [goodKey_eq, goodKey_eq, bytesLess_tri low high]
theorem isWithin_eq (low high key : Str) : isWithin low high key = isWithinS low high key := by
  unfold isWithin isWithinS
  rw [areEnds_eq, goodKey_eq]
end Go.M

set_option linter.unusedVariables false
namespace Go.M
/-- Each element and the one before it. -/
def adj {α : Type} (p : α → α → Bool) : List α → Bool
  | [] => true
  | [_] => true
  | x :: y :: l => p x y && adj p (y :: l)
theorem drop_two {α : Type} {l : List α} {k : Nat} {x y : α} (hy : l[k]? = some y) (hx : l[k + 1]? = some x) : l.drop k = y :: x :: l.drop (k + 2) := by
  rw [Go.AV.drop_some hy, Go.AV.drop_some hx]
theorem adj_step {α : Type} {p : α → α → Bool} {l : List α} {i : Nat} {x y : α} (hx : l[i]? = some x) (hy : l[i - 1]? = some y) (h : 0 < i → p y x = true) : adj p (l.drop (i - 1)) = adj p (l.drop (i + 1 - 1)) := by
  cases i with
  | zero => rfl
  | succ k =>
    simp only [Nat.add_sub_cancel] at *
    rw [drop_two hy hx, Go.AV.drop_some hx, adj, h (by omega), Bool.true_and]
theorem adj_stop {α : Type} {p : α → α → Bool} {l : List α} {i : Nat} {x y : α} (hx : l[i]? = some x) (hy : l[i - 1]? = some y) (h0 : 0 < i) (h : p y x = false) : adj p (l.drop (i - 1)) = false := by
  cases i with
  | zero => omega
  | succ k =>
    simp only [Nat.add_sub_cancel] at *
    rw [drop_two hy hx, adj, h, Bool.false_and]
theorem adj_end {α : Type} {p : α → α → Bool} {l : List α} {i : Nat} (h : l.length ≤ i) : adj p (l.drop (i - 1)) = true := by
  have hl : (l.drop (i - 1)).length ≤ 1 := by rw [List.length_drop]; omega
  match hd : l.drop (i - 1), hl with
  | [], _ => rfl
  | [x], _ => rfl
theorem adj_congr {α : Type} {p q : α → α → Bool} (h : ∀ a b, p a b = q a b) : ∀ l : List α, adj p l = adj q l
  | [] => rfl
  | [_] => rfl
  | x :: y :: l => by rw [adj, adj, h, adj_congr h (y :: l)]
def isTime (t : Int) : Bool := within t 1 100000
def isGroup (g : Int) : Bool := within g 0 3
def isStored (val : Str) (gone : Bool) : Bool := goodVal val && !(gone && val != [])
def goodItem (c : TFeedItem) : Bool := isTime c.Time && isGroup c.Group && goodKey c.Key && isStored c.Val c.Gone
def l3Val (s : Str) : Bool := decide ((s.length : Int) ≤ 24) && l3Bytes s [46, 45, 44, 95]
def l3Write (key val : Str) (gone : Bool) : Bool := l3Key key && l3Val val && (!gone || val == [])
def l23Good (c : TFeedItem) : Bool := within c.Time 1 100000 && within c.Group 0 3 && l3Write c.Key c.Val c.Gone
def cmpInt (x y : Int) : Int := if x < y then -1 else if y < x then 1 else 0
def cmpStr (x y : Str) : Int := if Op.bytesLess x y then -1 else if Op.bytesLess y x then 1 else 0
def orInt : List Int → Int
  | [] => 0
  | x :: l => if x = 0 then orInt l else x
def compareItems (a b : TFeedItem) : Int := orInt [cmpInt a.Time b.Time, cmpInt a.Group b.Group, cmpStr a.Key b.Key]
def l23Ahead (a b : TFeedItem) : Bool := if a.Time ≠ b.Time then decide (a.Time < b.Time) else if a.Group ≠ b.Group then decide (a.Group < b.Group) else Op.bytesLess a.Key b.Key
def isFeed (l : List TFeedItem) : Bool := adj (fun a b => !decide (0 ≤ compareItems a b)) l && decide ((l.length : Int) ≤ 400)
def goodFeed (l : List TFeedItem) : Bool := isFeed l && !(l.any fun c => !goodItem c)
def l23Feed (l : List TFeedItem) : Bool := (l.all l23Good && adj l23Ahead l) && decide ((l.length : Int) ≤ 400)
theorem goodVal_eq (s : Str) : goodVal s = l3Val s := by unfold goodVal l3Val; rw [hasB_eq]
theorem isStored_eq (s : Str) (g : Bool) : isStored s g = (l3Val s && (!g || s == [])) := by
  unfold isStored; rw [goodVal_eq]; cases g <;> simp [bne]
theorem goodItem_eq (c : TFeedItem) : goodItem c = l23Good c := by
  unfold goodItem l23Good l3Write isTime isGroup
  rw [isStored_eq, goodKey_eq]; simp only [Bool.and_assoc]
theorem compare_ahead (a b : TFeedItem) : (!decide (0 ≤ compareItems a b)) = l23Ahead a b := by
  unfold compareItems l23Ahead orInt orInt orInt orInt cmpInt cmpStr
  have := bytesLess_tri a.Key b.Key
  by_cases h1 : a.Time < b.Time
  · simp [h1, show a.Time ≠ b.Time by omega]
  · by_cases h2 : b.Time < a.Time
    · simp [h1, h2, show a.Time ≠ b.Time by omega]
    · have h3 : a.Time = b.Time := by omega
      by_cases h4 : a.Group < b.Group
      · simp [h3, h4, show a.Group ≠ b.Group by omega]
      · by_cases h5 : b.Group < a.Group
        · simp [h3, h4, h5, show a.Group ≠ b.Group by omega]
        · have h6 : a.Group = b.Group := by omega
          simp only [h3, h6, Int.lt_irrefl, ne_eq, not_true_eq_false, if_false, if_true]
          cases h7 : Op.bytesLess a.Key b.Key <;> cases h8 : Op.bytesLess b.Key a.Key <;> simp
theorem goodFeed_eq (l : List TFeedItem) : goodFeed l = l23Feed l := by
  unfold goodFeed l23Feed isFeed
  rw [adj_congr compare_ahead, show (!(l.any fun c => !goodItem c)) = l.all l23Good by
    rw [List.not_any_eq_all_not]; congr 1; funext c; rw [Bool.not_not, goodItem_eq]]
  cases l.all l23Good <;> cases adj l23Ahead l <;> simp
end Go.M

set_option linter.unusedVariables false
namespace Go.M
/-- Each element and all before it. -/
def allPre {α : Type} (p : List α → α → Bool) : List α → List α → Bool
  | _, [] => true
  | pre, x :: l => p pre x && allPre p (pre ++ [x]) l
theorem allPre_step {α : Type} {p : List α → α → Bool} {l : List α} {i : Nat} {x : α} (hx : l[i]? = some x) (h : p (l.take i) x = true) : allPre p (l.take i) (l.drop i) = allPre p (l.take (i + 1)) (l.drop (i + 1)) := by
  rw [Go.AV.drop_some hx, allPre, h, Bool.true_and, List.take_add_one, hx]; rfl
theorem allPre_stop {α : Type} {p : List α → α → Bool} {l : List α} {i : Nat} {x : α} (hx : l[i]? = some x) (h : p (l.take i) x = false) : allPre p (l.take i) (l.drop i) = false := by
  rw [Go.AV.drop_some hx, allPre, h, Bool.false_and]
theorem allPre_end {α : Type} {p : List α → α → Bool} {l : List α} {i : Nat} (h : l.length ≤ i) : allPre p (l.take i) (l.drop i) = true := by
  rw [List.drop_eq_nil_of_le h]; rfl
theorem all_step {α : Type} {p : α → Bool} {l : List α} {i : Nat} {x : α} (hx : l[i]? = some x) (h : p x = true) : (l.drop i).all p = (l.drop (i + 1)).all p := by
  rw [Go.AV.drop_some hx, List.all_cons, h, Bool.true_and]
theorem all_stop {α : Type} {p : α → Bool} {l : List α} {i : Nat} {x : α} (hx : l[i]? = some x) (h : p x = false) : (l.drop i).all p = false := by
  rw [Go.AV.drop_some hx, List.all_cons, h, Bool.false_and]
theorem all_end {α : Type} {p : α → Bool} {l : List α} {i : Nat} (h : l.length ≤ i) : (l.drop i).all p = true := by
  rw [List.drop_eq_nil_of_le h]; rfl
def isLet (c : UInt8) : Bool := !(decide ((c.toNat : Int) < 97) || decide (122 < (c.toNat : Int)))
def letters (s : Str) (most : Int) : Bool := s.all isLet && within s.length 1 most
def isStage (t : Int) : Bool := within t 0 3
def goodCols (l : List Str) : Bool := allPre (fun pre s => letters s 3 && !(pre.any fun x => s == x)) [] l
def goodIdx (n : Int) (x : TIdx) : Bool := letters x.Name 1 && within x.Col 1 (n - 1) && within x.Stage 0 3
def lessName (a b : TIdx) : Bool := Op.bytesLess a.Name b.Name
def goodTable (t : TTable) : Bool := letters t.Name 1 && (within t.Cols.length 2 4 && goodCols t.Cols) && decide ((t.Idxs.length : Int) ≤ 3) && (t.Idxs.all (goodIdx t.Cols.length) && adj lessName t.Idxs)
def colAt (t : TTable) (c : Str) : Int × Bool :=
  let i := idxFrom (fun x => c == x) t.Cols 0
  if goodTable t = true ∧ 0 ≤ i then (i, true) else (0, false)
def l24Idx (t : TTable) (c : Str) : Int := idxFrom (fun x : TIdx => x.Name == c) t.Idxs 0
def idxAt (t : TTable) (c : Str) : TIdx × Bool :=
  if goodTable t = true ∧ 0 ≤ l24Idx t c then (match t.Idxs[(l24Idx t c).toNat]? with | some x => x | none => ⟨[], 0, 0⟩, true) else (⟨[], 0, 0⟩, false)
theorem idxFrom_le {α : Type} (p : α → Bool) : ∀ (l : List α) (k : Int), 0 ≤ k → 0 ≤ idxFrom p l k → k ≤ idxFrom p l k ∧ ∃ x, l[(idxFrom p l k - k).toNat]? = some x
  | [], k, hk, h => by simp [idxFrom] at h
  | x :: l, k, hk, h => by
    unfold idxFrom at h ⊢
    by_cases hp : p x = true
    · simp only [hp, if_true]; exact ⟨Int.le_refl _, x, by simp⟩
    · simp only [hp] at h ⊢
      obtain ⟨h1, y, h2⟩ := idxFrom_le p l (k + 1) (by omega) h
      refine ⟨by simp; omega, y, ?_⟩
      simp only [Bool.false_eq_true, if_false]
      rw [show (idxFrom p l (k + 1) - k).toNat = (idxFrom p l (k + 1) - (k + 1)).toNat + 1 by omega]
      simpa using h2
theorem idxFrom_get {α : Type} (p : α → Bool) (l : List α) (h : 0 ≤ idxFrom p l 0) : ∃ x, l[(idxFrom p l 0).toNat]? = some x := by
  have := (idxFrom_le p l 0 (Int.le_refl 0) h).2
  rwa [Int.sub_zero] at this
theorem idxFrom_congr {α : Type} {p q : α → Bool} (h : ∀ x, p x = q x) : ∀ (l : List α) (k : Int), idxFrom p l k = idxFrom q l k
  | [], _ => rfl
  | x :: l, k => by unfold idxFrom; rw [h, idxFrom_congr h l]
end Go.M

set_option linter.unusedVariables false
set_option linter.unusedSimpArgs false
namespace Go.M
theorem take_map_succ {α β : Type} {f : α → β} {l : List α} {i : Nat} {x : α} (h : l[i]? = some x) : (l.take i).map f ++ [f x] = (l.take (i + 1)).map f := by
  rw [List.take_add_one, h]; simp
def areRising (l : List Str) : Bool := l.all goodKey && adj Op.bytesLess l
def wKeys (l : List TWrite) : List Str := l.map TWrite.Key
def goodWrites (l : List TWrite) : Bool := decide ((l.length : Int) ≤ 24) && areRising (wKeys l) && !(l.any fun w => !isStored w.Val w.Gone)
def isRows (l : List TWrite) : Bool := goodWrites l && !(l.any TWrite.Gone)
def areInRange (m : TMove) (l : List TWrite) : Bool := isRows l && !(l.any fun w => !inRange m.Low m.High w.Key)
def goodMove (m : TMove) : Bool :=
  if (!areEnds m.Low m.High || !areInRange m m.From || !areInRange m m.To) = true then false
  else if m.Phase = 2 then ((m.From.length : Int) == 0) && m.Last == [] && !m.Over
  else (m.Phase == 1) && (m.Last == [] || goodKey m.Last)
def wLess (a b : TWrite) : Bool := Op.bytesLess a.Key b.Key
def wGood (w : TWrite) : Bool := l3Write w.Key w.Val w.Gone
def l3Writes (l : List TWrite) : Bool := (l.all wGood && adj wLess l) && decide ((l.length : Int) ≤ 24)
def l5Rows (l : List TWrite) : Bool := l.all (fun w => !w.Gone) && l3Writes l
def l22Rows (low high : Str) (l : List TWrite) : Bool := l.all (fun w => inRange low high w.Key) && l5Rows l
def goodMoveS (m : TMove) : Bool :=
  if (!l22Ends m.Low m.High || !within m.Phase 1 2 || !l22Rows m.Low m.High m.From || !l22Rows m.Low m.High m.To || m.Last != [] && !l3Key m.Last) = true then false
  else m.Phase == 1 || ((m.From.length : Int) == 0) && m.Last == [] && !m.Over
theorem adj_map {α β : Type} (f : α → β) (p : β → β → Bool) : ∀ l : List α, adj p (l.map f) = adj (fun a b => p (f a) (f b)) l
  | [] => rfl
  | [_] => rfl
  | x :: y :: l => by
    have := adj_map f p (y :: l)
    simp only [List.map_cons, adj] at *
    rw [this]
theorem goodWrites_eq (l : List TWrite) : goodWrites l = l3Writes l := by
  unfold goodWrites l3Writes areRising wKeys
  rw [adj_map, List.all_map, List.not_any_eq_all_not]
  have h2 : l.all wGood = ((l.all (goodKey ∘ TWrite.Key)) && l.all fun w => l3Val w.Val && (!w.Gone || w.Val == [])) := by
    induction l with
    | nil => rfl
    | cons w l ih =>
      simp only [List.all_cons, ih, wGood, l3Write, Function.comp, goodKey_eq, Bool.and_assoc]
      cases l3Key w.Key <;> cases l3Val w.Val <;> cases (!w.Gone || w.Val == []) <;> simp only [Bool.true_and, Bool.and_true, Bool.false_and, Bool.and_false]
  have h1 : (l.all fun w => !!isStored w.Val w.Gone) = l.all fun w => l3Val w.Val && (!w.Gone || w.Val == []) := by
    congr 1; funext w; rw [Bool.not_not, isStored_eq]
  rw [h1, h2]
  show _ = _
  have h3 : adj (fun a b => Op.bytesLess a.Key b.Key) l = adj wLess l := rfl
  rw [h3]
  cases l.all (goodKey ∘ TWrite.Key) <;> cases adj wLess l <;> cases decide ((l.length : Int) ≤ 24) <;> cases (l.all fun w => l3Val w.Val && (!w.Gone || w.Val == [])) <;> rfl
theorem isRows_eq (l : List TWrite) : isRows l = l5Rows l := by
  unfold isRows l5Rows
  rw [goodWrites_eq, List.not_any_eq_all_not, Bool.and_comm]
theorem areInRange_eq (m : TMove) (l : List TWrite) : areInRange m l = l22Rows m.Low m.High l := by
  unfold areInRange l22Rows
  rw [isRows_eq, List.not_any_eq_all_not, Bool.and_comm]
  congr 2; funext w; rw [Bool.not_not]
theorem goodMove_eq (m : TMove) : goodMove m = goodMoveS m := by
  unfold goodMove goodMoveS within
  rw [areInRange_eq, areInRange_eq, areEnds_eq, goodKey_eq]
  cases h1 : l22Ends m.Low m.High <;> cases h2 : l22Rows m.Low m.High m.From <;> cases h3 : l22Rows m.Low m.High m.To <;> simp
  by_cases h4 : m.Phase = 2
  · simp [h4]
    cases h5 : l3Key m.Last <;> cases h6 : m.Last <;> simp
  · by_cases h5 : m.Phase = 1
    · simp [h5]
      cases h5 : l3Key m.Last <;> cases h6 : m.Last <;> simp
    · have e1 : (m.Phase == 1) = false := beq_false_of_ne h5
      by_cases h6 : m.Phase < 1
      · simp [h6, e1]; intro h; exact absurd h h4
      · have h7 : 2 < m.Phase := by omega
        simp [h7, e1]; intro h; exact absurd h h4
end Go.M

set_option linter.unusedVariables false
set_option linter.unusedSimpArgs false
namespace Go.M
theorem bytesLess_trans : ∀ {a b c : Str}, Op.bytesLess a b = true → Op.bytesLess b c = true → Op.bytesLess a c = true
  | [], b, c, h1, h2 => by
    cases c with
    | nil => cases b <;> simp [Op.bytesLess] at h2
    | cons z c => rfl
  | x :: a, [], _, h1, _ => by simp [Op.bytesLess] at h1
  | x :: a, y :: b, [], _, h2 => by simp [Op.bytesLess] at h2
  | x :: a, y :: b, z :: c, h1, h2 => by
    simp only [Op.bytesLess, Bool.or_eq_true, Bool.and_eq_true, decide_eq_true_eq, beq_iff_eq] at h1 h2 ⊢
    rcases h1 with h1 | ⟨h1, h1'⟩
    · rcases h2 with h2 | ⟨h2, _⟩
      · exact .inl (UInt8.lt_trans h1 h2)
      · subst h2; exact .inl h1
    · subst h1
      rcases h2 with h2 | ⟨h2, h2'⟩
      · exact .inl h2
      · exact .inr ⟨h2, bytesLess_trans h1' h2'⟩
theorem cmpStr_neg (a b : Str) : cmpStr a b < 0 ↔ Op.bytesLess a b = true := by
  unfold cmpStr
  cases h1 : Op.bytesLess a b
  · cases h2 : Op.bytesLess b a <;> simp
  · simp
theorem cmpStr_zero (a b : Str) : cmpStr a b = 0 ↔ a = b := by
  unfold cmpStr
  have h3 := bytesLess_tri a b
  cases h1 : Op.bytesLess a b
  · cases h2 : Op.bytesLess b a
    · rw [h1, h2] at h3; simp at h3; simp [h3]
    · simp; intro h; subst h; rw [h1] at h2; cases h2
  · simp; intro h; subst h; rw [bytesLess_irrefl] at h1; cases h1
/-- Where each element is below the next, it is below all that follow. -/
theorem adj_all {α : Type} {p : α → α → Bool} (tr : ∀ a b c, p a b = true → p b c = true → p a c = true) : ∀ {l : List α} {x : α}, adj p (x :: l) = true → ∀ y ∈ l, p x y = true
  | [], _, _, y, hy => by simp at hy
  | z :: l, x, h, y, hy => by
    simp only [adj, Bool.and_eq_true] at h
    rcases List.mem_cons.1 hy with rfl | hy
    · exact h.1
    · exact tr _ _ _ h.1 (adj_all tr h.2 y hy)
theorem adj_tail {α : Type} {p : α → α → Bool} {l : List α} {x : α} (h : adj p (x :: l) = true) : adj p l = true := by
  cases l with
  | nil => rfl
  | cons y l => simp only [adj, Bool.and_eq_true] at h; exact h.2
theorem adj_get {α : Type} {p : α → α → Bool} (tr : ∀ a b c, p a b = true → p b c = true → p a c = true) : ∀ {l : List α}, adj p l = true → ∀ {i j : Nat} {x y : α}, i < j → l[i]? = some x → l[j]? = some y → p x y = true
  | [], _, i, j, x, y, _, hx, _ => by simp at hx
  | z :: l, h, 0, j + 1, x, y, _, hx, hy => by
    simp at hx; subst hx
    exact adj_all tr h y (List.mem_of_getElem? (by simpa using hy))
  | z :: l, h, i + 1, j + 1, x, y, hij, hx, hy => adj_get tr (adj_tail h) (by omega : i < j) (by simpa using hx) (by simpa using hy)
/-- What the search by halves finds. -/
theorem bs_spec {α : Type} (f : α → Int) (l : List α) (down : ∀ (i j : Nat) (x y : α), i < j → l[i]? = some x → l[j]? = some y → f y < 0 → f x < 0) : ∀ (d i j : Nat), j - i = d → i ≤ j → j ≤ l.length →
    (∀ k x, k < i → l[k]? = some x → f x < 0) → (∀ x, l[j]? = some x → ¬ f x < 0) → (∀ k x, k < bs f l i j → l[k]? = some x → f x < 0) ∧ (∀ x, l[bs f l i j]? = some x → ¬ f x < 0) := by
  intro d
  induction d using Nat.strongRecOn with
  | _ d ih =>
    intro i j hd hij hjl hlo hhi
    by_cases h : i < j
    · obtain ⟨x, hx⟩ := Go.AV.get_some (show (i + j) / 2 < l.length by omega)
      by_cases hf : f x < 0
      · rw [bs_lo h hx hf]
        refine ih (j - ((i + j) / 2 + 1)) (by omega) _ _ rfl (by omega) hjl (fun k y hk hy => ?_) hhi
        rcases Nat.lt_or_ge k ((i + j) / 2) with h1 | h1
        · exact down k _ y x h1 hy hx hf
        · have : k = (i + j) / 2 := by omega
          subst this
          rw [hx] at hy; injection hy with hy; subst hy; exact hf
      · rw [bs_hi h hx hf]
        exact ih ((i + j) / 2 - i) (by omega) _ _ rfl (by omega) (by omega) hlo (fun y hy => by rw [hx] at hy; injection hy with hy; subst hy; exact hf)
    · rw [bs_end h]
      have : i = j := by omega
      subst this
      exact ⟨hlo, hhi⟩
def wCmp (k : Str) (w : TWrite) : Int := cmpStr w.Key k
def wPos (l : List TWrite) (k : Str) : Nat := bs (wCmp k) l 0 l.length
def wHas (l : List TWrite) (k : Str) : Bool := bsAt (wCmp k) l (wPos l k)
theorem wLess_trans (a b c : TWrite) (h : wLess a b = true) (k : wLess b c = true) : wLess a c = true := bytesLess_trans h k
theorem wPos_spec {l : List TWrite} (h : adj wLess l = true) (k : Str) : (∀ i x, i < wPos l k → l[i]? = some x → Op.bytesLess x.Key k = true) ∧ (∀ x, l[wPos l k]? = some x → Op.bytesLess x.Key k = false) := by
  have := bs_spec (wCmp k) l (fun i j x y hij hx hy hf => by
    unfold wCmp at *
    rw [cmpStr_neg] at *
    exact bytesLess_trans (adj_get wLess_trans h hij hx hy) hf) l.length 0 l.length rfl (Nat.zero_le _) (Nat.le_refl _) (fun k x hk => by omega) (fun x hx => by rw [List.getElem?_eq_none (Nat.le_refl _)] at hx; cases hx)
  refine ⟨fun i x hi hx => (cmpStr_neg _ _).1 (this.1 i x hi hx), fun x hx => ?_⟩
  have h2 := this.2 x hx
  unfold wCmp at h2
  rw [cmpStr_neg] at h2
  simpa using h2
/-- The first write of a key. -/
def findW (l : List TWrite) (k : Str) : Option TWrite := l.find? fun w => w.Key == k
theorem findW_eq {l : List TWrite} (h : adj wLess l = true) (k : Str) : findW l k = if wHas l k = true then l[wPos l k]? else none := by
  obtain ⟨h1, h2⟩ := wPos_spec h k
  have hat : ∀ w ∈ l, w.Key = k → l[wPos l k]? = some w := fun w hw he => by
    obtain ⟨i, hi⟩ := List.getElem?_of_mem hw
    rcases Nat.lt_trichotomy i (wPos l k) with hlt | heq | hgt
    · have := h1 i w hlt hi
      rw [he, bytesLess_irrefl] at this; cases this
    · rw [← heq]; exact hi
    · obtain ⟨y, hy⟩ := Go.AV.get_some (show wPos l k < l.length by have := (List.getElem?_eq_some_iff.1 hi).1; omega)
      have h3 := h2 y hy
      have h4 := adj_get wLess_trans h hgt hy hi
      unfold wLess at h4
      rw [he, h3] at h4; cases h4
  unfold wHas bsAt findW
  cases hp : l[wPos l k]? with
  | none =>
    simp only [Bool.false_eq_true, if_false]
    rw [List.find?_eq_none]
    intro w hw
    simp only [beq_iff_eq]
    intro he
    have := hat w hw he
    rw [hp] at this; cases this
  | some y =>
    simp only [wCmp, beq_iff_eq, cmpStr_zero]
    by_cases hk : y.Key = k
    · rw [if_pos hk]
      cases hf : l.find? fun w => w.Key == k with
      | none =>
        have := List.find?_eq_none.1 hf y (List.mem_of_getElem? hp)
        simp [hk] at this
      | some w =>
        have h5 := List.find?_some hf
        have h6 := hat w (List.mem_of_find?_eq_some hf) (by simpa using h5)
        rw [hp] at h6; exact h6.symm
    · rw [if_neg hk, List.find?_eq_none]
      intro w hw
      simp only [beq_iff_eq]
      intro he
      have := hat w hw he
      rw [hp] at this; injection this with this; subst this; exact hk he
def gotOf (l : List TWrite) (k : Str) : TGot := if wHas l k = true then (match l[wPos l k]? with | some w => ⟨k, w.Val, true⟩ | none => ⟨k, [], true⟩) else ⟨k, [], false⟩
def readMove (m : TMove) (k : Str) : Str × Bool × Int × Bool :=
  if (!goodMove m || !goodKey k || !inRange m.Low m.High k) = true then ([], false, 0, false)
  else ((gotOf (if m.Phase = 2 then m.To else m.From) k).Val, (gotOf (if m.Phase = 2 then m.To else m.From) k).There, m.Phase, true)
def readRes (o : Option TWrite) (p : Int) : Str × Bool × Int × Bool := match o with
  | some w => (w.Val, true, p, true)
  | none => ([], false, p, true)
def readMoveS (m : TMove) (k : Str) : Str × Bool × Int × Bool :=
  if (!goodMoveS m || !l3Key k || !inRange m.Low m.High k) = true then ([], false, 0, false)
  else readRes (findW (if m.Phase = 2 then m.To else m.From) k) m.Phase
theorem rows_adj {m : TMove} {l : List TWrite} (h : areInRange m l = true) : adj wLess l = true := by
  unfold areInRange isRows at h
  simp only [Bool.and_eq_true] at h
  have h1 := h.1.1
  rw [goodWrites_eq] at h1
  unfold l3Writes at h1
  simp only [Bool.and_eq_true] at h1
  exact h1.1.2
theorem goodMove_rows {m : TMove} (h : goodMove m = true) : areEnds m.Low m.High = true ∧ areInRange m m.From = true ∧ areInRange m m.To = true := by
  unfold goodMove at h
  split at h
  · cases h
  · rename_i hh
    simpa [Bool.or_eq_true, not_or, and_assoc] using hh
theorem readMove_eq (m : TMove) (k : Str) : readMove m k = readMoveS m k := by
  unfold readMove readMoveS
  rw [goodMove_eq, goodKey_eq]
  split
  · rfl
  · rename_i hh
    have hg : goodMove m = true := by
      rw [goodMove_eq]
      cases h : goodMoveS m
      · rw [h] at hh; simp at hh
      · rfl
    obtain ⟨_, h1, h2⟩ := goodMove_rows hg
    have ha : adj wLess (if m.Phase = 2 then m.To else m.From) = true := by split; exact rows_adj h2; exact rows_adj h1
    generalize (if m.Phase = 2 then m.To else m.From) = l at *
    rw [findW_eq ha]
    unfold gotOf
    cases hw : wHas l k
    · simp [readRes]
    · simp only [if_true]
      unfold wHas bsAt at hw
      cases hp : l[wPos l k]? with
      | none => rw [hp] at hw; cases hw
      | some w => rfl
def noWrite : TWrite := ⟨[], [], false⟩
def wEq (a b : TWrite) : Bool := (a.Key == b.Key) && ((a.Val == b.Val) && ((a.Gone == b.Gone) && true))
theorem wEq_dec (a b : TWrite) : wEq a b = decide (a = b) := by
  unfold wEq; cases a; cases b; simp only [TWrite.mk.injEq, Bool.and_true]
  rw [Bool.eq_iff_iff]; simp
def isMoveAct (m : TMove) (a : TMoveAct) : Bool :=
  if a.Kind = 1 then (a.Many == 0) && goodWrites [a.Write] && inRange m.Low m.High a.Write.Key
  else if a.Kind = 2 then wEq a.Write noWrite && within a.Many 1 24
  else if a.Kind = 3 ∨ a.Kind = 4 then wEq a.Write noWrite && (a.Many == 0)
  else false
def l22Good (m : TMove) (a : TMoveAct) : Bool :=
  if a.Kind = 1 then l3Write a.Write.Key a.Write.Val a.Write.Gone && inRange m.Low m.High a.Write.Key && (a.Many == 0)
  else if a.Kind = 2 then wEq a.Write noWrite && within a.Many 1 24
  else if a.Kind = 3 ∨ a.Kind = 4 then wEq a.Write noWrite && (a.Many == 0)
  else false
theorem isMoveAct_eq (m : TMove) (a : TMoveAct) : isMoveAct m a = l22Good m a := by
  unfold isMoveAct l22Good
  have h : goodWrites [a.Write] = l3Write a.Write.Key a.Write.Val a.Write.Gone := by
    rw [goodWrites_eq]; unfold l3Writes wGood; simp [adj]
  rw [h]
  split
  · cases (a.Many == 0) <;> cases l3Write a.Write.Key a.Write.Val a.Write.Gone <;> cases inRange m.Low m.High a.Write.Key <;> rfl
  · rfl
end Go.M

set_option linter.unusedVariables false
set_option linter.unusedSimpArgs false
namespace Go.M
def cpDel (m : TMove) (w : TWrite) : Bool := !m.Over && !(Op.bytesLess w.Key m.Last || w.Key == m.Last)
def cpWant (m : TMove) (w : TWrite) : Bool := m.Over || (Op.bytesLess w.Key m.Last || w.Key == m.Last)
def isCopied (m : TMove) : Bool × Bool := if (!goodMove m) = true then (false, false) else ((m.Phase == 2) || decide (m.From.filter (fun w => !cpDel m w) = m.To), true)
def l22Copied (m : TMove) : Bool := if m.Phase = 2 then true else decide (m.From.filter (cpWant m) = m.To)
def isCopiedS (m : TMove) : Bool × Bool := if (!goodMoveS m) = true then (false, false) else (l22Copied m, true)
theorem cpDel_eq (m : TMove) : (fun w => !cpDel m w) = cpWant m := by
  funext w; unfold cpDel cpWant
  cases m.Over <;> cases Op.bytesLess w.Key m.Last <;> cases (w.Key == m.Last) <;> rfl
theorem isCopied_eq (m : TMove) : isCopied m = isCopiedS m := by
  unfold isCopied isCopiedS l22Copied
  rw [goodMove_eq, cpDel_eq]
  by_cases h : m.Phase = 2
  · simp [h]
  · have e : (m.Phase == 2) = false := beq_false_of_ne h
    simp [h, e]
def mkMove (low high : Str) (rows : List TWrite) : TMove := ⟨low, high, 1, rows, [], [], false⟩
def noMove : TMove := ⟨[], [], 0, [], [], [], false⟩
def newMove (low high : Str) (rows : List TWrite) : TMove × Bool := if (!goodMove (mkMove low high rows)) = true then (noMove, false) else (mkMove low high rows, true)
def newMoveS (low high : Str) (rows : List TWrite) : TMove × Bool := if (!l22Ends low high || !l22Rows low high rows) = true then (noMove, false) else (mkMove low high rows, true)
theorem newMove_eq (low high : Str) (rows : List TWrite) : newMove low high rows = newMoveS low high rows := by
  unfold newMove newMoveS
  have h : goodMove (mkMove low high rows) = (l22Ends low high && l22Rows low high rows) := by
    rw [goodMove_eq]
    unfold goodMoveS mkMove
    have h1 : l22Rows low high [] = true := rfl
    have h2 : within 1 1 2 = true := rfl
    simp only [h1, h2]
    cases l22Ends low high <;> cases l22Rows low high rows <;> rfl
  rw [h]
  cases l22Ends low high <;> cases l22Rows low high rows <;> rfl
theorem newMove_len (low high : Str) (rows : List TWrite) : (newMove low high rows).1.From.length ≤ rows.length ∧ (newMove low high rows).1.To.length = 0 := by
  unfold newMove; split
  · exact ⟨Nat.zero_le _, rfl⟩
  · exact ⟨Nat.le_refl _, rfl⟩
end Go.M

set_option linter.unusedVariables false
set_option linter.unusedSimpArgs false
namespace Go.M
/-- A write put into rising rows, in the place of one of its key. -/
def ins : List TWrite → TWrite → List TWrite
  | [], w => [w]
  | x :: l, w => if Op.bytesLess x.Key w.Key = true then x :: ins l w else if x.Key = w.Key then w :: l else w :: x :: l
theorem ins_at {w : TWrite} : ∀ {l : List TWrite} {p : Nat}, p ≤ l.length → (∀ i x, i < p → l[i]? = some x → Op.bytesLess x.Key w.Key = true) → (∀ x, l[p]? = some x → Op.bytesLess x.Key w.Key = false) →
    ins l w = if (∃ x, l[p]? = some x ∧ x.Key = w.Key) then l.set p w else l.take p ++ w :: l.drop p
  | [], p, hp, _, _ => by simp at hp; subst hp; simp [ins]
  | x :: l, 0, _, _, h2 => by
    have h := h2 x rfl
    unfold ins
    rw [h]
    by_cases hk : x.Key = w.Key
    · rw [if_neg (by decide), if_pos hk, if_pos ⟨x, rfl, hk⟩]; rfl
    · rw [if_neg (by decide), if_neg hk, if_neg (fun ⟨y, hy, hyk⟩ => by simp at hy; subst hy; exact hk hyk)]; rfl
  | x :: l, p + 1, hp, h1, h2 => by
    have h := h1 0 x (by omega) rfl
    unfold ins
    rw [if_pos h, ins_at (l := l) (p := p) (by simpa using hp) (fun i y hi hy => h1 (i + 1) y (by omega) (by simpa using hy)) (fun y hy => h2 y (by simpa using hy))]
    simp only [List.getElem?_cons_succ, List.set_cons_succ, List.take_succ_cons, List.drop_succ_cons]
    split <;> simp
def putW (l : List TWrite) (w : TWrite) : List TWrite := if wHas l w.Key = true then l.set (wPos l w.Key) w else l.take (wPos l w.Key) ++ w :: l.drop (wPos l w.Key)
theorem bs_le {α : Type} (f : α → Int) (l : List α) : ∀ (d i j : Nat), j - i = d → i ≤ j → j ≤ l.length → bs f l i j ≤ j := by
  intro d
  induction d using Nat.strongRecOn with
  | _ d ih =>
    intro i j hd hij hjl
    by_cases h : i < j
    · obtain ⟨x, hx⟩ := Go.AV.get_some (show (i + j) / 2 < l.length by omega)
      by_cases hf : f x < 0
      · rw [bs_lo h hx hf]
        exact ih (j - ((i + j) / 2 + 1)) (by omega) _ _ rfl (by omega) hjl
      · rw [bs_hi h hx hf]
        exact Nat.le_trans (ih ((i + j) / 2 - i) (by omega) _ _ rfl (by omega) (by omega)) (by omega)
    · rw [bs_end h]; exact hij
theorem wPos_le (l : List TWrite) (k : Str) : wPos l k ≤ l.length := bs_le _ _ _ _ _ rfl (Nat.zero_le _) (Nat.le_refl _)
theorem wHas_iff {l : List TWrite} {k : Str} : wHas l k = true ↔ ∃ x, l[wPos l k]? = some x ∧ x.Key = k := by
  unfold wHas bsAt
  cases h : l[wPos l k]? with
  | none => simp
  | some x => simp [wCmp, cmpStr_zero]
theorem putW_ins {l : List TWrite} (h : adj wLess l = true) (w : TWrite) : putW l w = ins l w := by
  obtain ⟨h1, h2⟩ := wPos_spec h w.Key
  rw [ins_at (wPos_le l w.Key) h1 h2]
  unfold putW
  by_cases hw : wHas l w.Key = true
  · rw [if_pos hw, if_pos (wHas_iff.1 hw)]
  · rw [if_neg hw, if_neg (fun h => hw (wHas_iff.2 h))]
/-- Where the reference's search from behind stops. -/
def scanW (l : List TWrite) (k : Str) : Nat → Nat
  | 0 => 0
  | n + 1 => match l[n]? with
    | some x => if Op.bytesLess k x.Key = true then scanW l k n else n + 1
    | none => n + 1
def hitW (l : List TWrite) (k : Str) : Nat → Bool
  | 0 => false
  | n + 1 => match l[n]? with
    | some x => x.Key == k
    | none => false
def putWS (l : List TWrite) (w : TWrite) : List TWrite :=
  if hitW l w.Key (scanW l w.Key l.length) = true then l.set (scanW l w.Key l.length - 1) w else l.take (scanW l w.Key l.length) ++ w :: l.drop (scanW l w.Key l.length)
theorem scanW_le (l : List TWrite) (k : Str) : ∀ n, scanW l k n ≤ n
  | 0 => Nat.le_refl _
  | n + 1 => by
    unfold scanW
    split
    · split
      · exact Nat.le_succ_of_le (scanW_le l k n)
      · exact Nat.le_refl _
    · exact Nat.le_refl _
theorem scanW_spec (l : List TWrite) (k : Str) : ∀ n, n ≤ l.length → (∀ i x, scanW l k n ≤ i → i < n → l[i]? = some x → Op.bytesLess k x.Key = true) ∧ (∀ x, 0 < scanW l k n → l[scanW l k n - 1]? = some x → Op.bytesLess k x.Key = false)
  | 0, _ => ⟨fun i x h1 h2 => by omega, fun x h => by simp [scanW] at h⟩
  | n + 1, hn => by
    obtain ⟨x, hx⟩ := Go.AV.get_some (show n < l.length by omega)
    have ih := scanW_spec l k n (by omega)
    unfold scanW
    simp only [hx]
    by_cases hb : Op.bytesLess k x.Key = true
    · rw [if_pos hb]
      refine ⟨fun i y h1 h2 hy => ?_, ih.2⟩
      rcases Nat.lt_or_ge i n with h3 | h3
      · exact ih.1 i y h1 h3 hy
      · have : i = n := by omega
        subst this
        rw [hx] at hy; injection hy with hy; subst hy; exact hb
    · rw [if_neg hb]
      refine ⟨fun i y h1 h2 hy => by omega, fun y _ hy => ?_⟩
      rw [Nat.add_sub_cancel, hx] at hy; injection hy with hy; subst hy
      simpa using hb
theorem putWS_ins {l : List TWrite} (h : adj wLess l = true) (w : TWrite) : putWS l w = ins l w := by
  obtain ⟨h1, h2⟩ := scanW_spec l w.Key l.length (Nat.le_refl _)
  have hle := scanW_le l w.Key l.length
  unfold putWS
  generalize scanW l w.Key l.length = k at *
  cases k with
  | zero =>
    rw [if_neg (by simp [hitW]), ins_at (l := l) (p := 0) (Nat.zero_le _) (fun i x h => by omega) (fun x hx => by
      have h3 := h1 0 x (Nat.le_refl _) (List.getElem?_eq_some_iff.1 hx).1 hx
      cases hb : Op.bytesLess x.Key w.Key with
      | false => rfl
      | true => have := bytesLess_trans h3 hb; rw [bytesLess_irrefl] at this; cases this)]
    rw [if_neg]
    intro ⟨x, hx, hk⟩
    have h3 := h1 0 x (Nat.le_refl _) (List.getElem?_eq_some_iff.1 hx).1 hx
    rw [hk, bytesLess_irrefl] at h3; cases h3
  | succ n =>
    obtain ⟨x, hx⟩ := Go.AV.get_some (show n < l.length by omega)
    have h3 := h2 x (by omega) (by simpa using hx)
    have htri := bytesLess_tri x.Key w.Key
    by_cases hk : x.Key = w.Key
    · rw [if_pos (by simp [hitW, hx, hk]), Nat.add_sub_cancel]
      rw [ins_at (l := l) (p := n) (by omega) (fun i y hi hy => by have := adj_get wLess_trans h hi hy hx; unfold wLess at this; rw [hk] at this; exact this) (fun y hy => by rw [hx] at hy; injection hy with hy; subst hy; rw [hk, bytesLess_irrefl])]
      rw [if_pos ⟨x, hx, hk⟩]
    · have hlt : Op.bytesLess x.Key w.Key = true := by rw [h3] at htri; cases hb : Op.bytesLess x.Key w.Key with | true => rfl | false => (rw [hb] at htri; simp at htri; exact absurd htri.symm hk)
      rw [if_neg (by simp [hitW, hx, hk])]
      have hno : ∀ y, l[n + 1]? = some y → Op.bytesLess w.Key y.Key = true := fun y hy => h1 (n + 1) y (Nat.le_refl _) (List.getElem?_eq_some_iff.1 hy).1 hy
      rw [ins_at (l := l) (p := n + 1) hle (fun i y hi hy => by
        rcases Nat.lt_or_ge i n with h4 | h4
        · have := adj_get wLess_trans h h4 hy hx
          exact bytesLess_trans this hlt
        · have : i = n := by omega
          subst this
          rw [hx] at hy; injection hy with hy; subst hy; exact hlt) (fun y hy => by
        cases hb : Op.bytesLess y.Key w.Key with
        | false => rfl
        | true => have := bytesLess_trans (hno y hy) hb; rw [bytesLess_irrefl] at this; cases this)]
      rw [if_neg]
      intro ⟨y, hy, hyk⟩
      have := hno y hy
      rw [hyk, bytesLess_irrefl] at this; cases this
theorem putW_eq {l : List TWrite} (h : adj wLess l = true) (w : TWrite) : putW l w = putWS l w := (putW_ins h w).trans (putWS_ins h w).symm
/-! ### What putting in keeps -/
theorem adj_pair {α : Type} {p : α → α → Bool} (tr : ∀ a b c, p a b = true → p b c = true → p a c = true) : ∀ {l : List α}, adj p l = true ↔ l.Pairwise fun a b => p a b = true
  | [] => by simp [adj]
  | [x] => by simp [adj]
  | x :: y :: l => by
    rw [adj, Bool.and_eq_true, adj_pair tr, List.pairwise_cons (a := x)]
    constructor
    · intro ⟨h1, h2⟩
      refine ⟨fun z hz => ?_, h2⟩
      rcases List.mem_cons.1 hz with rfl | hz
      · exact h1
      · exact tr _ _ _ h1 (List.rel_of_pairwise_cons h2 hz)
    · intro ⟨h1, h2⟩
      exact ⟨h1 y List.mem_cons_self, h2⟩
theorem adj_filter {l : List TWrite} (q : TWrite → Bool) (h : adj wLess l = true) : adj wLess (l.filter q) = true :=
  (adj_pair wLess_trans).2 (((adj_pair wLess_trans).1 h).filter q)
theorem adj_take {l : List TWrite} (n : Nat) (h : adj wLess l = true) : adj wLess (l.take n) = true :=
  (adj_pair wLess_trans).2 (((adj_pair wLess_trans).1 h).sublist (List.take_sublist n l))
theorem ins_mem {w x : TWrite} : ∀ {l : List TWrite}, x ∈ ins l w → x = w ∨ x ∈ l
  | [], h => by simp [ins] at h; exact .inl h
  | y :: l, h => by
    unfold ins at h
    split at h
    · rcases List.mem_cons.1 h with rfl | h
      · exact .inr List.mem_cons_self
      · exact (ins_mem h).imp id (List.mem_cons_of_mem _)
    · split at h
      · rcases List.mem_cons.1 h with rfl | h
        · exact .inl rfl
        · exact .inr (List.mem_cons_of_mem _ h)
      · rcases List.mem_cons.1 h with rfl | h
        · exact .inl rfl
        · exact .inr h
theorem ins_adj {w : TWrite} : ∀ {l : List TWrite}, adj wLess l = true → adj wLess (ins l w) = true
  | [], _ => rfl
  | y :: l, h => by
    have hp := (adj_pair wLess_trans).1 h
    refine (adj_pair wLess_trans).2 ?_
    unfold ins
    split
    · rename_i hlt
      have ih := (adj_pair wLess_trans).1 (ins_adj (w := w) (adj_tail h))
      refine List.pairwise_cons.2 ⟨fun z hz => ?_, ih⟩
      rcases ins_mem hz with rfl | hz
      · exact hlt
      · exact List.rel_of_pairwise_cons hp hz
    · rename_i hnlt
      split
      · rename_i hk
        refine List.pairwise_cons.2 ⟨fun z hz => ?_, (List.pairwise_cons.1 hp).2⟩
        have := List.rel_of_pairwise_cons hp hz
        unfold wLess at this ⊢
        rw [← hk]; exact this
      · rename_i hk
        have hgt : Op.bytesLess w.Key y.Key = true := by
          have := bytesLess_tri y.Key w.Key
          cases hb : Op.bytesLess w.Key y.Key with
          | true => rfl
          | false => rw [hb] at this; simp at hnlt; rw [hnlt] at this; simp at this; exact absurd this.symm hk
        refine List.pairwise_cons.2 ⟨fun z hz => ?_, hp⟩
        rcases List.mem_cons.1 hz with rfl | hz
        · exact hgt
        · exact bytesLess_trans hgt (List.rel_of_pairwise_cons hp hz)
theorem ins_len {w : TWrite} : ∀ {l : List TWrite}, l.length ≤ (ins l w).length ∧ (ins l w).length ≤ l.length + 1
  | [] => by simp [ins]
  | y :: l => by
    unfold ins
    have ih := ins_len (w := w) (l := l)
    split
    · simp; omega
    · split <;> simp
theorem gt_less (a b : Str) : (!(Op.bytesLess a b || a == b)) = Op.bytesLess b a := by
  have h := bytesLess_tri a b
  cases h1 : Op.bytesLess a b
  · cases h2 : Op.bytesLess b a
    · rw [h1, h2] at h; simp at h; simp [h]
    · simp; intro hc; subst hc; rw [bytesLess_irrefl] at h2; cases h2
  · simp; cases h2 : Op.bytesLess b a with
    | false => rfl
    | true => have := bytesLess_trans h1 h2; rw [bytesLess_irrefl] at this; cases this
theorem scanW_step {l : List TWrite} {k : Str} {n : Nat} {x : TWrite} (hx : l[n]? = some x) (h : Op.bytesLess k x.Key = true) : scanW l k (n + 1) = scanW l k n := by
  conv => lhs; unfold scanW
  simp only [hx, h, if_true]
theorem scanW_stop {l : List TWrite} {k : Str} {n : Nat} {x : TWrite} (hx : l[n]? = some x) (h : Op.bytesLess k x.Key = false) : scanW l k (n + 1) = n + 1 := by
  unfold scanW
  simp only [hx, h, Bool.false_eq_true, if_false]
def insL (l ws : List TWrite) : List TWrite := ws.foldl ins l
theorem insL_adj : ∀ {ws l : List TWrite}, adj wLess l = true → adj wLess (insL l ws) = true
  | [], _, h => h
  | w :: ws, l, h => insL_adj (ws := ws) (ins_adj h)
theorem insL_mem {x : TWrite} : ∀ {ws l : List TWrite}, x ∈ insL l ws → x ∈ ws ∨ x ∈ l
  | [], _, h => .inr h
  | w :: ws, l, h => by
    rcases insL_mem (ws := ws) (l := ins l w) h with h | h
    · exact .inl (List.mem_cons_of_mem _ h)
    · rcases ins_mem h with rfl | h
      · exact .inl List.mem_cons_self
      · exact .inr h
theorem insL_len : ∀ {ws l : List TWrite}, (insL l ws).length ≤ l.length + ws.length
  | [], l => by simp [insL]
  | w :: ws, l => by
    have h1 := insL_len (ws := ws) (l := ins l w)
    have h2 := (ins_len (w := w) (l := l)).2
    show (insL (ins l w) ws).length ≤ _
    simp only [List.length_cons]; omega
def putL (l ws : List TWrite) : List TWrite := ws.foldl putW l
def putLS (l ws : List TWrite) : List TWrite := ws.foldl putWS l
theorem putL_ins : ∀ {ws l : List TWrite}, adj wLess l = true → putL l ws = insL l ws
  | [], _, _ => rfl
  | w :: ws, l, h => by
    show putL (putW l w) ws = insL (ins l w) ws
    rw [putW_ins h, putL_ins (ins_adj h)]
theorem putLS_ins : ∀ {ws l : List TWrite}, adj wLess l = true → putLS l ws = insL l ws
  | [], _, _ => rfl
  | w :: ws, l, h => by
    show putLS (putWS l w) ws = insL (ins l w) ws
    rw [putWS_ins h, putLS_ins (ins_adj h)]
theorem putWS_len (l : List TWrite) (w : TWrite) : (putWS l w).length ≤ l.length + 1 := by
  unfold putWS; split
  · simp
  · simp; omega
theorem putW_len (l : List TWrite) (w : TWrite) : (putW l w).length ≤ l.length + 1 := by
  unfold putW; split
  · simp
  · simp; omega
theorem putLS_len : ∀ (ws l : List TWrite), (putLS l ws).length ≤ l.length + ws.length
  | [], l => by simp [putLS]
  | w :: ws, l => by
    have h1 := putLS_len ws (putWS l w)
    have h2 := putWS_len l w
    show (putLS (putWS l w) ws).length ≤ _
    simp only [List.length_cons]; omega
theorem putL_len : ∀ (ws l : List TWrite), (putL l ws).length ≤ l.length + ws.length
  | [], l => by simp [putL]
  | w :: ws, l => by
    have h1 := putL_len ws (putW l w)
    have h2 := putW_len l w
    show (putL (putW l w) ws).length ≤ _
    simp only [List.length_cons]; omega
theorem putL_snoc (l ws : List TWrite) (w : TWrite) : putL l (ws ++ [w]) = putW (putL l ws) w := by unfold putL; rw [List.foldl_append]; rfl
theorem putLS_snoc (l ws : List TWrite) (w : TWrite) : putLS l (ws ++ [w]) = putWS (putLS l ws) w := by unfold putLS; rw [List.foldl_append]; rfl
def livesL (l : List TWrite) : List TWrite := l.filter fun w => !w.Gone
/-- The program's putRows. -/
def putRows (rows ws : List TWrite) : List TWrite × Bool := if (24 : Int) < ((livesL (putL rows ws)).length : Int) then ([], false) else (livesL (putL rows ws), true)
/-- The reference's PutRows. -/
def putRowsS (rows ws : List TWrite) : List TWrite × Bool := if (!l5Rows rows || !l3Writes ws || !l5Rows (livesL (putLS rows ws))) = true then ([], false) else (livesL (putLS rows ws), true)
theorem l5_adj {l : List TWrite} (h : l5Rows l = true) : adj wLess l = true := by
  unfold l5Rows l3Writes at h; simp only [Bool.and_eq_true] at h; exact h.2.1.2
theorem l5_all {l : List TWrite} (h : l5Rows l = true) : ∀ w ∈ l, w.Gone = false ∧ wGood w = true := by
  unfold l5Rows l3Writes at h; simp only [Bool.and_eq_true, List.all_eq_true] at h
  exact fun w hw => ⟨by simpa using h.1 w hw, h.2.1.1 w hw⟩
theorem l5_len {l : List TWrite} (h : l5Rows l = true) : l.length ≤ 24 := by
  unfold l5Rows l3Writes at h; simp only [Bool.and_eq_true, decide_eq_true_eq] at h; omega
theorem l5_mk {l : List TWrite} (h1 : adj wLess l = true) (h2 : ∀ w ∈ l, w.Gone = false ∧ wGood w = true) : l5Rows l = decide ((l.length : Int) ≤ 24) := by
  unfold l5Rows l3Writes
  have h3 : (l.all fun w => !w.Gone) = true := List.all_eq_true.2 fun w hw => by simp [(h2 w hw).1]
  have h4 : l.all wGood = true := List.all_eq_true.2 fun w hw => (h2 w hw).2
  rw [h1, h3, h4]; simp
theorem live_all {rows ws : List TWrite} (hr : l5Rows rows = true) (hw : ∀ w ∈ ws, wGood w = true) : ∀ w ∈ livesL (insL rows ws), w.Gone = false ∧ wGood w = true := fun w h => by
  obtain ⟨h1, h2⟩ := List.mem_filter.1 h
  refine ⟨by simpa using h2, ?_⟩
  rcases insL_mem h1 with h3 | h3
  · exact hw w h3
  · exact (l5_all hr w h3).2
theorem putRows_eq {rows ws : List TWrite} (hr : l5Rows rows = true) (hw : l3Writes ws = true) : putRows rows ws = putRowsS rows ws := by
  have ha := l5_adj hr
  have hg : ∀ w ∈ ws, wGood w = true := by unfold l3Writes at hw; simp only [Bool.and_eq_true, List.all_eq_true] at hw; exact hw.1.1
  unfold putRows putRowsS
  rw [putL_ins ha, putLS_ins ha, hr, hw, l5_mk (l := livesL (insL rows ws)) (adj_filter _ (insL_adj ha)) (live_all hr hg)]
  by_cases h : (24 : Int) < ((livesL (insL rows ws)).length : Int)
  · rw [if_pos h, if_pos (by simp; omega)]
  · rw [if_neg h, if_neg (by simp; omega)]
theorem sizeW_app {α : Type} (f : α → Nat) (a b : List α) : sizeL f (a ++ b) = sizeL f a + sizeL f b := by
  unfold sizeL; simp only [List.length_append, List.map_append, List.sum_append]; omega
theorem sizeW_cons {α : Type} (f : α → Nat) (x : α) (b : List α) : sizeL f (x :: b) = f x + 1 + sizeL f b := by
  unfold sizeL; simp only [List.length_cons, List.map_cons, List.sum_cons]; omega
theorem sizeW_ins {α : Type} (f : α → Nat) (l : List α) (n : Nat) (x : α) : sizeL f (l.take n ++ x :: l.drop n) = sizeL f l + f x + 1 := by
  have h := congrArg (sizeL f) (List.take_append_drop n l)
  rw [sizeW_app] at h
  rw [sizeW_app, sizeW_cons]; omega
theorem sizeW_set {α : Type} (f : α → Nat) (x : α) : ∀ (l : List α) (n : Nat), sizeL f (l.set n x) ≤ sizeL f l + f x
  | [], n => by simp
  | y :: l, 0 => by rw [List.set_cons_zero, sizeW_cons, sizeW_cons]; omega
  | y :: l, n + 1 => by rw [List.set_cons_succ, sizeW_cons, sizeW_cons]; have := sizeW_set f x l n; omega
theorem sizeW_sub {α : Type} {f : α → Nat} {l m : List α} (h : List.Sublist m l) : sizeL f m ≤ sizeL f l := by
  induction h with
  | slnil => exact Nat.le_refl _
  | cons x h ih => rw [sizeW_cons]; omega
  | cons_cons x h ih => rw [sizeW_cons, sizeW_cons]; omega
theorem putWS_size (l : List TWrite) (w : TWrite) : sizeL TWrite.size (putWS l w) ≤ sizeL TWrite.size l + w.size + 1 := by
  unfold putWS; split
  · have := sizeW_set TWrite.size w l (scanW l w.Key l.length - 1); omega
  · rw [sizeW_ins]; omega
theorem putLS_size : ∀ (ws l : List TWrite), sizeL TWrite.size (putLS l ws) ≤ sizeL TWrite.size l + sizeL TWrite.size ws
  | [], l => by simp [putLS]
  | w :: ws, l => by
    have h1 := putLS_size ws (putWS l w)
    have h2 := putWS_size l w
    show sizeL TWrite.size (putLS (putWS l w) ws) ≤ _
    rw [sizeW_cons]; omega
theorem livesL_size (l : List TWrite) : sizeL TWrite.size (livesL l) ≤ sizeL TWrite.size l := sizeW_sub (List.filter_sublist)
theorem livesL_id {l : List TWrite} (h : ∀ w ∈ l, w.Gone = false) : livesL l = l := by
  unfold livesL; rw [List.filter_eq_self]; intro w hw; simp [h w hw]
end Go.M

set_option linter.unusedVariables false
set_option linter.unusedSimpArgs false
namespace Go.M
def sleM (a b : Str) : Bool := Op.bytesLess a b || a == b
def putR1 (m : TMove) (w : TWrite) : List TWrite × Bool := if m.Phase = 1 then putRows m.From [w] else (m.From, true)
def putR2 (m : TMove) (w : TWrite) : List TWrite × Bool := if (m.Phase == 2 || m.Over || sleM w.Key m.Last) = true then putRows m.To [w] else (m.To, true)
def putM (m : TMove) (w : TWrite) : TMove × Bool := if ((putR1 m w).2 && (putR2 m w).2) = true then (⟨m.Low, m.High, m.Phase, (putR1 m w).1, (putR2 m w).1, m.Last, m.Over⟩, true) else (m, false)
def restM (m : TMove) : List TWrite := m.From.filter fun w => !sleM w.Key m.Last
def minI (a b : Int) : Int := if b < a then b else a
def pieceOf (m : TMove) (many : Int) : List TWrite := (restM m).take (minI many (restM m).length).toNat
def lastKey (l : List TWrite) (d : Str) : Str := match l.getLast? with
  | some w => w.Key
  | none => d
theorem lastKey_some {l : List TWrite} {d : Str} {y : TWrite} (h : l[l.length - 1]? = some y) : lastKey l d = y.Key := by
  unfold lastKey; rw [List.getLast?_eq_getElem?, h]
theorem lastKey_take {l : List TWrite} {d : Str} {y : TWrite} {i : Nat} (h : l[i]? = some y) : lastKey (l.take (i + 1)) d = y.Key := by
  unfold lastKey; rw [List.take_add_one, h]; simp
theorem lastKey_none {l : List TWrite} {d : Str} (h : l.length = 0) : lastKey l d = d := by
  rw [List.eq_nil_of_length_eq_zero h]; rfl
def pieceM (m : TMove) (many : Int) : TMove × Bool :=
  if (putRows m.To (pieceOf m many)).2 = false then (m, false)
  else (⟨m.Low, m.High, m.Phase, m.From, (putRows m.To (pieceOf m many)).1, lastKey (pieceOf m many) m.Last, m.Over || (((pieceOf m many).length : Int) == ((restM m).length : Int))⟩, true)
def stepM (m : TMove) (a : TMoveAct) : TMove × Bool :=
  if a.Kind = 1 then putM m a.Write
  else if m.Phase ≠ 1 then (m, false)
  else if a.Kind = 2 then pieceM m a.Many
  else if ((a.Kind == 3) && m.Over) = true then (⟨m.Low, m.High, 2, [], m.To, [], false⟩, true)
  else if a.Kind = 4 then (⟨m.Low, m.High, m.Phase, m.From, [], [], false⟩, true)
  else (m, false)
def stepMove (m : TMove) (a : TMoveAct) : TMove × Bool × Bool := if (goodMove m && isMoveAct m a) = true then ((stepM m a).1, (stepM m a).2, true) else (noMove, false, false)
/-! ### The reference -/
def putBoth (m : TMove) (w : TWrite) : Bool := m.Phase == 2 || m.Over || sleM w.Key m.Last
def putBad (m : TMove) (w : TWrite) : Bool := ((m.Phase == 1) && !(putRowsS m.From [w]).2) || (putBoth m w && !(putRowsS m.To [w]).2)
def putMS (m : TMove) (w : TWrite) : TMove × Bool :=
  if putBad m w = true then (m, false)
  else (⟨m.Low, m.High, m.Phase, if m.Phase = 1 then (putRowsS m.From [w]).1 else m.From, if putBoth m w = true then (putRowsS m.To [w]).1 else m.To, m.Last, m.Over⟩, true)
def leastI (a b : Int) : Int := if a < b then a else b
def gtLast (m : TMove) (w : TWrite) : Bool := !(Op.bytesLess w.Key m.Last || w.Key == m.Last)
def leftM (m : TMove) : List TWrite := m.From.filter (gtLast m)
def pieceS (m : TMove) (many : Int) : List TWrite := (leftM m).take (leastI many (leftM m).length).toNat
def pieceMS (m : TMove) (many : Int) : TMove :=
  ⟨m.Low, m.High, m.Phase, m.From, putLS m.To (pieceS m many), lastKey (pieceS m many) m.Last, m.Over || (leastI many (leftM m).length == ((leftM m).length : Int))⟩
def doS (m : TMove) (a : TMoveAct) : TMove × Bool :=
  if a.Kind = 1 then putMS m a.Write
  else if ((m.Phase != 1) || ((a.Kind == 3) && !m.Over)) = true then (m, false)
  else if a.Kind = 2 then (pieceMS m a.Many, goodMoveS (pieceMS m a.Many))
  else if a.Kind = 3 then (⟨m.Low, m.High, 2, [], m.To, [], false⟩, true)
  else (⟨m.Low, m.High, 1, m.From, [], [], false⟩, true)
def stepMS (m : TMove) (a : TMoveAct) : TMove × Bool := if (doS m a).2 = true then ((doS m a).1, true) else (m, false)
def stepMoveS (m : TMove) (a : TMoveAct) : TMove × Bool × Bool := if (goodMoveS m && l22Good m a) = true then ((stepMS m a).1, (stepMS m a).2, true) else (noMove, false, false)
end Go.M

set_option linter.unusedVariables false
set_option linter.unusedSimpArgs false
namespace Go.M
theorem lastKey_len (l : List TWrite) (d : Str) : (lastKey l d).length ≤ sizeL TWrite.size l + d.length := by
  unfold lastKey
  split
  · rename_i w hw
    have h := sizeL_mem (f := TWrite.size) (List.mem_of_getLast? hw)
    have h2 : w.Key.length ≤ w.size := Nat.le_add_right _ _
    omega
  · omega
theorem pieceS_size (m : TMove) (many : Int) : sizeL TWrite.size (pieceS m many) ≤ sizeL TWrite.size m.From :=
  sizeW_sub ((List.take_sublist _ _).trans List.filter_sublist)
theorem pieceMS_size (m : TMove) (many : Int) : (pieceMS m many).size ≤ 3 * m.size := by
  have h1 := pieceS_size m many
  have h2 := lastKey_len (pieceS m many) m.Last
  have h3 := putLS_size (pieceS m many) m.To
  unfold TMove.size pieceMS
  simp only
  omega
/-! ### A good migration is small -/
theorem within_iff {n a b : Int} : within n a b = true ↔ a ≤ n ∧ n ≤ b := by unfold within; simp
theorem goodKey_len {k : Str} (h : goodKey k = true) : k.length ≤ 12 := by
  unfold goodKey at h; simp only [Bool.and_eq_true, within_iff] at h; omega
theorem l3Key_len {k : Str} (h : l3Key k = true) : k.length ≤ 12 := by
  unfold l3Key at h; simp only [Bool.and_eq_true, within_iff] at h; omega
theorem wGood_size {w : TWrite} (h : wGood w = true) : w.size ≤ 36 := by
  unfold wGood l3Write at h
  simp only [Bool.and_eq_true] at h
  have h1 := l3Key_len h.1.1
  have h2 := h.1.2
  unfold l3Val at h2
  simp only [Bool.and_eq_true, decide_eq_true_eq] at h2
  unfold TWrite.size; omega
theorem sizeL_le {α : Type} {f : α → Nat} {c : Nat} : ∀ {l : List α}, (∀ x ∈ l, f x ≤ c) → sizeL f l ≤ l.length * (c + 1)
  | [], _ => by simp [sizeL]
  | x :: l, h => by
    rw [sizeW_cons]
    have h1 := h x List.mem_cons_self
    have h2 := sizeL_le (l := l) (f := f) (c := c) fun y hy => h y (List.mem_cons_of_mem _ hy)
    simp only [List.length_cons, Nat.add_mul, Nat.one_mul]; omega
theorem rows_size {l : List TWrite} (h : l5Rows l = true) : sizeL TWrite.size l ≤ 888 := by
  have h1 := sizeL_le (f := TWrite.size) (c := 36) fun w hw => wGood_size (l5_all h w hw).2
  have h2 := l5_len h
  omega
theorem goodMove_l5 {m : TMove} (h : goodMove m = true) : l5Rows m.From = true ∧ l5Rows m.To = true := by
  obtain ⟨_, h1, h2⟩ := goodMove_rows h
  unfold areInRange at h1 h2
  simp only [Bool.and_eq_true] at h1 h2
  rw [isRows_eq] at h1 h2
  exact ⟨h1.1, h2.1⟩
theorem goodMove_parts {m : TMove} (h : goodMove m = true) : m.Low.length ≤ 12 ∧ m.High.length ≤ 12 ∧ m.Last.length ≤ 12 := by
  have h0 := goodMove_rows h
  have h1 := h0.1
  unfold areEnds at h1
  simp only [Bool.and_eq_true, Bool.or_eq_true, beq_iff_eq] at h1
  refine ⟨?_, ?_, ?_⟩
  · rcases h1.1 with h2 | h2
    · rw [h2]; decide
    · exact goodKey_len h2
  · rcases h1.2 with h2 | h2
    · rw [h2]; decide
    · exact goodKey_len h2.1
  · rw [goodMove_eq] at h
    unfold goodMoveS at h
    split at h
    · cases h
    · rename_i hh
      simp only [Bool.or_eq_true, not_or, Bool.and_eq_true, not_and, bne_iff_ne, ne_eq] at hh
      by_cases hl : m.Last = []
      · rw [hl]; decide
      · have := hh.2 hl
        exact l3Key_len (by simpa using this)
theorem goodMove_size {m : TMove} (h : goodMove m = true) : m.size ≤ 2048 := by
  obtain ⟨h1, h2⟩ := goodMove_l5 h
  obtain ⟨h3, h4, h5⟩ := goodMove_parts h
  have h6 := rows_size h1
  have h7 := rows_size h2
  unfold TMove.size; omega
theorem isMoveAct_w {m : TMove} {a : TMoveAct} (h : isMoveAct m a = true) : a.Write.size ≤ 36 := by
  rw [isMoveAct_eq] at h
  unfold l22Good at h
  split at h
  · simp only [Bool.and_eq_true] at h
    exact wGood_size h.1.1
  · split at h
    · simp only [Bool.and_eq_true, wEq_dec, decide_eq_true_eq] at h
      rw [h.1]; decide
    · split at h
      · simp only [Bool.and_eq_true, wEq_dec, decide_eq_true_eq] at h
        rw [h.1]; decide
      · cases h
theorem act_kind {m : TMove} {a : TMoveAct} (h : isMoveAct m a = true) : a.Kind = 1 ∨ a.Kind = 2 ∨ a.Kind = 3 ∨ a.Kind = 4 := by
  unfold isMoveAct at h
  split at h
  · omega
  · split at h
    · omega
    · split at h
      · omega
      · cases h
theorem act_put {m : TMove} {a : TMoveAct} (h : isMoveAct m a = true) (k : a.Kind = 1) : l3Writes [a.Write] = true ∧ inRange m.Low m.High a.Write.Key = true ∧ a.Many = 0 := by
  unfold isMoveAct at h
  rw [if_pos k] at h
  simp only [Bool.and_eq_true, beq_iff_eq] at h
  rw [goodWrites_eq] at h
  exact ⟨h.1.2, h.2, h.1.1⟩
theorem act_many0 {m : TMove} {a : TMoveAct} (h : isMoveAct m a = true) (k : a.Kind = 2) : 0 ≤ a.Many := by
  unfold isMoveAct at h
  rw [if_neg (by omega), if_pos k] at h
  simp only [Bool.and_eq_true, within_iff] at h
  omega
theorem putM_eq {m : TMove} {w : TWrite} (hg : goodMove m = true) (hw : l3Writes [w] = true) : putM m w = if (putMS m w).2 = true then ((putMS m w).1, true) else (m, false) := by
  obtain ⟨h1, h2⟩ := goodMove_l5 hg
  have e1 := putRows_eq h1 hw
  have e2 := putRows_eq h2 hw
  have r1 : putR1 m w = if m.Phase = 1 then putRowsS m.From [w] else (m.From, true) := by unfold putR1; rw [e1]
  have r2 : putR2 m w = if putBoth m w = true then putRowsS m.To [w] else (m.To, true) := by unfold putR2 putBoth; rw [e2]
  unfold putM putMS putBad
  rw [r1, r2]
  generalize putRowsS m.From [w] = A
  generalize putRowsS m.To [w] = B
  obtain ⟨A1, A2⟩ := A
  obtain ⟨B1, B2⟩ := B
  generalize putBoth m w = t
  by_cases hp : m.Phase = 1
  · have hb : (m.Phase == 1) = true := by simp [hp]
    simp only [hp, if_true]
    cases A2 <;> cases B2 <;> cases t <;> simp
  · have hb : (m.Phase == 1) = false := beq_false_of_ne hp
    simp only [hp, if_false, hb]
    cases B2 <;> cases t <;> simp
theorem minI_eq (a b : Int) : minI a b = leastI a b := by unfold minI leastI; split <;> split <;> omega
theorem pieceOf_eq (m : TMove) (many : Int) : pieceOf m many = pieceS m many := by
  unfold pieceOf pieceS; rw [minI_eq]; rfl
theorem pieceS_len (m : TMove) {many : Int} (h : 0 ≤ many) : ((pieceS m many).length : Int) = leastI many (leftM m).length := by
  unfold pieceS; rw [List.length_take]
  unfold leastI; split <;> omega
theorem lastKey_or (l : List TWrite) (d : Str) : lastKey l d = d ∨ ∃ w ∈ l, lastKey l d = w.Key := by
  unfold lastKey
  split
  · rename_i w hw; exact .inr ⟨w, List.mem_of_getLast? hw, rfl⟩
  · exact .inl rfl
theorem piece_mem {m : TMove} {many : Int} {w : TWrite} (h : w ∈ pieceS m many) : w ∈ m.From := (List.mem_filter.1 (List.mem_of_mem_take h)).1
theorem inRow {m : TMove} {l : List TWrite} (h : areInRange m l = true) : l5Rows l = true ∧ ∀ w ∈ l, inRange m.Low m.High w.Key = true := by
  rw [areInRange_eq] at h
  unfold l22Rows at h
  simp only [Bool.and_eq_true, List.all_eq_true] at h
  exact ⟨h.2, h.1⟩
theorem pieceMS_good {m : TMove} (hg : goodMove m = true) (hp : m.Phase = 1) (many : Int) : goodMoveS (pieceMS m many) = decide (((insL m.To (pieceS m many)).length : Int) ≤ 24) := by
  obtain ⟨h0, h1, h2⟩ := goodMove_rows hg
  obtain ⟨h3, h4⟩ := inRow h1
  obtain ⟨h5, h6⟩ := inRow h2
  have hl := (goodMove_parts hg).2.2
  have hadj := insL_adj (ws := pieceS m many) (l5_adj h5)
  have hall : ∀ w ∈ insL m.To (pieceS m many), w.Gone = false ∧ wGood w = true := fun w hw => by
    rcases insL_mem hw with h | h
    · exact l5_all h3 w (piece_mem h)
    · exact l5_all h5 w h
  have hin : (insL m.To (pieceS m many)).all (fun w => inRange m.Low m.High w.Key) = true := List.all_eq_true.2 fun w hw => by
    rcases insL_mem hw with h | h
    · exact h4 w (piece_mem h)
    · exact h6 w h
  have hrow : l22Rows m.Low m.High (insL m.To (pieceS m many)) = decide (((insL m.To (pieceS m many)).length : Int) ≤ 24) := by
    unfold l22Rows; rw [hin, l5_mk hadj hall, Bool.true_and]
  have hlast : (lastKey (pieceS m many) m.Last != [] && !l3Key (lastKey (pieceS m many) m.Last)) = false := by
    rcases lastKey_or (pieceS m many) m.Last with h | ⟨w, hw, h⟩
    · rw [h]
      rw [goodMove_eq] at hg
      unfold goodMoveS at hg
      split at hg
      · cases hg
      · rename_i hh
        simp only [Bool.or_eq_true, not_or] at hh
        simpa using hh.2
    · rw [h]
      have := (l5_all h3 w (piece_mem hw)).2
      unfold wGood l3Write at this
      simp only [Bool.and_eq_true] at this
      rw [this.1.1]; simp
  unfold goodMoveS pieceMS
  simp only
  rw [putLS_ins (l5_adj h5), hrow, hlast, ← areInRange_eq, h1, ← areEnds_eq, h0, hp]
  by_cases hn : ((insL m.To (pieceS m many)).length : Int) ≤ 24
  · simp [hn, within]
  · simp [hn, within]
theorem stepMS_of {m n : TMove} {a : TMoveAct} {b : Bool} (h : doS m a = (n, b)) : stepMS m a = if b = true then (n, true) else (m, false) := by unfold stepMS; rw [h]
theorem stepM_eq {m : TMove} {a : TMoveAct} (hg : goodMove m = true) (ha : isMoveAct m a = true) : stepM m a = stepMS m a := by
  by_cases h1 : a.Kind = 1
  · have hd : doS m a = putMS m a.Write := by unfold doS; rw [if_pos h1]
    unfold stepM stepMS
    rw [if_pos h1, hd, putM_eq hg (act_put ha h1).1]
  · by_cases hp : m.Phase = 1
    · have hb : (m.Phase != 1) = false := by simp [hp]
      by_cases h2 : a.Kind = 2
      · have h3 : (a.Kind == 3) = false := beq_false_of_ne (by omega)
        have hd : doS m a = (pieceMS m a.Many, goodMoveS (pieceMS m a.Many)) := by unfold doS; rw [if_neg h1, hb, h3, if_neg (by simp), if_pos h2]
        have hs : stepM m a = pieceM m a.Many := by unfold stepM; rw [if_neg h1, if_neg (by omega), if_pos h2]
        rw [stepMS_of hd, hs]
        obtain ⟨h5, h6⟩ := goodMove_l5 hg
        have hadj := l5_adj h6
        have hlive : livesL (insL m.To (pieceS m a.Many)) = insL m.To (pieceS m a.Many) := livesL_id fun w hw => by
          rcases insL_mem hw with h | h
          · exact (l5_all h5 w (piece_mem h)).1
          · exact (l5_all h6 w h).1
        unfold pieceM
        rw [pieceOf_eq, pieceMS_good hg hp, pieceS_len m (act_many0 ha h2)]
        unfold putRows
        rw [putL_ins hadj, hlive]
        by_cases hn : ((insL m.To (pieceS m a.Many)).length : Int) ≤ 24
        · have hn2 : ¬ (24 : Int) < ((insL m.To (pieceS m a.Many)).length : Int) := by omega
          have hn3 : decide (((insL m.To (pieceS m a.Many)).length : Int) ≤ 24) = true := decide_eq_true hn
          rw [if_neg hn2, hn3, if_pos rfl, if_neg (by simp)]
          unfold pieceMS
          rw [putLS_ins hadj]
          rfl
        · have hn2 : (24 : Int) < ((insL m.To (pieceS m a.Many)).length : Int) := by omega
          have hn3 : decide (((insL m.To (pieceS m a.Many)).length : Int) ≤ 24) = false := decide_eq_false hn
          rw [if_pos hn2, hn3, if_pos rfl, if_neg (by decide)]
      · by_cases h3 : a.Kind = 3
        · have hb3 : (a.Kind == 3) = true := by simp [h3]
          cases ho : m.Over
          · have hd : doS m a = (m, false) := by unfold doS; rw [if_neg h1, hb3, ho, if_pos (by simp)]
            have hs : stepM m a = (m, false) := by unfold stepM; rw [if_neg h1, if_neg (by omega), if_neg h2, hb3, ho, if_neg (by simp), if_neg (by omega)]
            rw [stepMS_of hd, hs]; rfl
          · have hd : doS m a = (⟨m.Low, m.High, 2, [], m.To, [], false⟩, true) := by unfold doS; rw [if_neg h1, hb, ho, if_neg (by simp), if_neg h2, if_pos h3]
            have hs : stepM m a = (⟨m.Low, m.High, 2, [], m.To, [], false⟩, true) := by unfold stepM; rw [if_neg h1, if_neg (by omega), if_neg h2, hb3, ho, if_pos (by simp)]
            rw [stepMS_of hd, hs]; rfl
        · have hb3 : (a.Kind == 3) = false := beq_false_of_ne h3
          have h4 : a.Kind = 4 := by have := act_kind ha; omega
          have hd : doS m a = (⟨m.Low, m.High, 1, m.From, [], [], false⟩, true) := by unfold doS; rw [if_neg h1, hb, hb3, if_neg (by simp), if_neg h2, if_neg h3]
          have hs : stepM m a = (⟨m.Low, m.High, 1, m.From, [], [], false⟩, true) := by unfold stepM; rw [if_neg h1, if_neg (by omega), if_neg h2, hb3, if_neg (by simp), if_pos h4, hp]
          rw [stepMS_of hd, hs]; rfl
    · have hb : (m.Phase != 1) = true := by simpa using hp
      have hd : doS m a = (m, false) := by unfold doS; rw [if_neg h1, hb, if_pos (by simp)]
      have hs : stepM m a = (m, false) := by unfold stepM; rw [if_neg h1, if_pos hp]
      rw [stepMS_of hd, hs]; rfl
theorem move_lens {m : TMove} (h : m.size ≤ 1048576) : m.From.length ≤ 1048576 ∧ m.To.length ≤ 1048576 := by
  have h1 := sizeL_len (f := TWrite.size) (l := m.From)
  have h2 := sizeL_len (f := TWrite.size) (l := m.To)
  unfold TMove.size at h; omega
theorem putMS_len (m : TMove) (w : TWrite) : (putMS m w).1.From.length ≤ m.From.length + 1 ∧ (putMS m w).1.To.length ≤ m.To.length + 1 := by
  have hp : ∀ l : List TWrite, (putRowsS l [w]).1.length ≤ l.length + 1 := fun l => by
    unfold putRowsS
    split
    · simp
    · have := putLS_len [w] l
      have h2 := List.length_filter_le (fun w : TWrite => !w.Gone) (putLS l [w])
      simp only [List.length_cons, List.length_nil] at this
      unfold livesL; simp only; omega
  unfold putMS
  split
  · simp
  · simp only
    constructor
    · split
      · exact hp _
      · omega
    · split
      · exact hp _
      · omega
theorem stepMS_len {m : TMove} {a : TMoveAct} : (stepMS m a).1.From.length ≤ m.From.length + 1 ∧ (stepMS m a).1.To.length ≤ m.To.length + m.From.length + 1 := by
  unfold stepMS
  split
  · simp only
    unfold doS
    split
    · have := putMS_len m a.Write; omega
    · split
      · simp only; omega
      · split
        · have h1 := putLS_len (pieceS m a.Many) m.To
          have h2 : (pieceS m a.Many).length ≤ m.From.length := ((List.take_sublist _ _).trans List.filter_sublist).length_le
          unfold pieceMS; simp only; omega
        · split <;> simp <;> omega
  · simp only; omega
theorem stepMove_len (m : TMove) (a : TMoveAct) : (stepMove m a).1.From.length ≤ m.From.length + 1 ∧ (stepMove m a).1.To.length ≤ m.To.length + m.From.length + 1 := by
  unfold stepMove
  split
  · rename_i h
    simp only [Bool.and_eq_true] at h
    rw [stepM_eq h.1 h.2]
    exact stepMS_len
  · exact ⟨Nat.zero_le _, Nat.zero_le _⟩
theorem stepMove_eq (m : TMove) (a : TMoveAct) : stepMove m a = stepMoveS m a := by
  unfold stepMove stepMoveS
  rw [← goodMove_eq, ← isMoveAct_eq]
  split
  · rename_i h
    simp only [Bool.and_eq_true] at h
    rw [stepM_eq h.1 h.2]
  · rfl
end Go.M

set_option linter.unusedVariables false
set_option linter.unusedSimpArgs false
namespace Go.M
def oneI (m : TMove) (a : TMoveAct) : TMove × Bool := if isMoveAct m a = true then stepM m a else (m, false)
def oneS (m : TMove) (a : TMoveAct) : TMove × Bool := if l22Good m a = true then stepMS m a else (m, false)
def runI (m : TMove) (l : List TMoveAct) : TMove × List Bool := l.foldl (fun r a => ((oneI r.1 a).1, r.2 ++ [(oneI r.1 a).2])) (m, [])
def runS (m : TMove) (l : List TMoveAct) : TMove × List Bool := l.foldl (fun r a => ((oneS r.1 a).1, r.2 ++ [(oneS r.1 a).2])) (m, [])
theorem runI_snoc (m : TMove) (l : List TMoveAct) (a : TMoveAct) : runI m (l ++ [a]) = ((oneI (runI m l).1 a).1, (runI m l).2 ++ [(oneI (runI m l).1 a).2]) := by unfold runI; rw [List.foldl_append]; rfl
theorem runS_snoc (m : TMove) (l : List TMoveAct) (a : TMoveAct) : runS m (l ++ [a]) = ((oneS (runS m l).1 a).1, (runS m l).2 ++ [(oneS (runS m l).1 a).2]) := by unfold runS; rw [List.foldl_append]; rfl
theorem runI_next {m : TMove} {l : List TMoveAct} {i : Nat} {a : TMoveAct} (h : l[i]? = some a) : runI m (l.take (i + 1)) = ((oneI (runI m (l.take i)).1 a).1, (runI m (l.take i)).2 ++ [(oneI (runI m (l.take i)).1 a).2]) := by
  rw [List.take_add_one, h]; exact runI_snoc _ _ _
theorem runS_next {m : TMove} {l : List TMoveAct} {i : Nat} {a : TMoveAct} (h : l[i]? = some a) : runS m (l.take (i + 1)) = ((oneS (runS m (l.take i)).1 a).1, (runS m (l.take i)).2 ++ [(oneS (runS m (l.take i)).1 a).2]) := by
  rw [List.take_add_one, h]; exact runS_snoc _ _ _
def playMove (m : TMove) (l : List TMoveAct) : TMove × List Bool × Bool := if (!goodMove m || decide ((30 : Int) < (l.length : Int))) = true then (noMove, [], false) else ((runI m l).1, (runI m l).2, true)
def playMoveS (m : TMove) (l : List TMoveAct) : TMove × List Bool × Bool := if (!goodMoveS m || decide ((30 : Int) < (l.length : Int))) = true then (noMove, [], false) else ((runS m l).1, (runS m l).2, true)
/-! ### A step keeps a migration good -/
theorem goodMove_mk {m : TMove} (h0 : areEnds m.Low m.High = true) (h1 : areInRange m m.From = true) (h2 : areInRange m m.To = true) (h3 : (m.Phase = 2 ∧ m.From = [] ∧ m.Last = [] ∧ m.Over = false) ∨ (m.Phase = 1 ∧ (m.Last = [] ∨ goodKey m.Last = true))) : goodMove m = true := by
  unfold goodMove
  rw [h0, h1, h2]
  rcases h3 with ⟨p, q, r, s⟩ | ⟨p, q⟩
  · rw [if_neg (by decide), if_pos p, q, r, s]; rfl
  · rw [if_neg (by decide), if_neg (by omega), p]
    rcases q with q | q
    · simp [q]
    · simp [q]
theorem goodMove_phase {m : TMove} (h : goodMove m = true) : (m.Phase = 2 ∧ m.From = [] ∧ m.Last = [] ∧ m.Over = false) ∨ (m.Phase = 1 ∧ (m.Last = [] ∨ goodKey m.Last = true)) := by
  unfold goodMove at h
  split at h
  · cases h
  · split at h
    · rename_i hp
      refine .inl ⟨hp, ?_⟩
      simpa [and_assoc] using h
    · refine .inr ?_
      simpa using h
theorem inRow_mk {m : TMove} {l : List TWrite} (h1 : l5Rows l = true) (h2 : ∀ w ∈ l, inRange m.Low m.High w.Key = true) : areInRange m l = true := by
  rw [areInRange_eq]; unfold l22Rows; rw [h1, Bool.and_true, List.all_eq_true]; exact h2
theorem inRange_same {m n : TMove} {l : List TWrite} (h : areInRange m l = true) (h1 : n.Low = m.Low) (h2 : n.High = m.High) : areInRange n l = true := by
  obtain ⟨h3, h4⟩ := inRow h
  exact inRow_mk h3 (by rw [h1, h2]; exact h4)
theorem putRowsS_in {m : TMove} {l : List TWrite} {w : TWrite} (h : areInRange m l = true) (hw : l3Writes [w] = true) (hi : inRange m.Low m.High w.Key = true) (ho : (putRowsS l [w]).2 = true) : areInRange m (putRowsS l [w]).1 = true := by
  obtain ⟨h1, h2⟩ := inRow h
  unfold putRowsS at ho ⊢
  split at ho
  · cases ho
  · rename_i hh
    rw [if_neg hh]
    simp only [Bool.or_eq_true, Bool.not_eq_true', not_or, Bool.not_eq_false] at hh
    refine inRow_mk hh.2 fun x hx => ?_
    rw [putLS_ins (l5_adj h1)] at hx
    rcases insL_mem (List.mem_filter.1 hx).1 with h3 | h3
    · rw [List.mem_singleton.1 h3]; exact hi
    · exact h2 x h3
theorem stepMS_good {m : TMove} {a : TMoveAct} (hg : goodMove m = true) (ha : isMoveAct m a = true) : goodMove (stepMS m a).1 = true := by
  obtain ⟨g0, g1, g2⟩ := goodMove_rows hg
  have gp := goodMove_phase hg
  unfold stepMS
  split
  · rename_i hd
    simp only
    by_cases k1 : a.Kind = 1
    · obtain ⟨w1, w2, _⟩ := act_put ha k1
      have he : doS m a = putMS m a.Write := by unfold doS; rw [if_pos k1]
      rw [he] at hd ⊢
      unfold putMS at hd ⊢
      split at hd
      · cases hd
      · rename_i hb
        rw [if_neg hb]
        have hb2 : ((m.Phase == 1) && !(putRowsS m.From [a.Write]).2) = false ∧ (putBoth m a.Write && !(putRowsS m.To [a.Write]).2) = false := by
          simpa [putBad] using hb
        have f1 : areInRange m (if m.Phase = 1 then (putRowsS m.From [a.Write]).1 else m.From) = true := by
          by_cases hp : m.Phase = 1
          · rw [if_pos hp]
            have ho : (putRowsS m.From [a.Write]).2 = true := by
              have h9 := hb2.1
              rw [hp] at h9
              simpa using h9
            exact putRowsS_in g1 w1 w2 ho
          · rw [if_neg hp]; exact g1
        have f2 : areInRange m (if putBoth m a.Write = true then (putRowsS m.To [a.Write]).1 else m.To) = true := by
          by_cases hp : putBoth m a.Write = true
          · rw [if_pos hp]
            have ho : (putRowsS m.To [a.Write]).2 = true := by
              have h9 := hb2.2
              rw [hp, Bool.true_and] at h9
              simpa using h9
            exact putRowsS_in g2 w1 w2 ho
          · rw [if_neg hp]; exact g2
        refine goodMove_mk g0 (inRange_same f1 rfl rfl) (inRange_same f2 rfl rfl) ?_
        · rcases gp with ⟨p1, p2, p3, p4⟩ | ⟨p1, p2⟩
          · exact .inl ⟨p1, by show (if m.Phase = 1 then _ else m.From) = []; rw [if_neg (by omega)]; exact p2, p3, p4⟩
          · exact .inr ⟨p1, p2⟩
    · by_cases hp : ((m.Phase != 1) || ((a.Kind == 3) && !m.Over)) = true
      · have he : doS m a = (m, false) := by unfold doS; rw [if_neg k1, if_pos hp]
        rw [he] at hd; cases hd
      · have hph : m.Phase = 1 := by
          by_cases h : m.Phase = 1
          · exact h
          · exact absurd (by simp [h]) hp
        by_cases k2 : a.Kind = 2
        · have he : doS m a = (pieceMS m a.Many, goodMoveS (pieceMS m a.Many)) := by unfold doS; rw [if_neg k1, if_neg hp, if_pos k2]
          rw [he] at hd ⊢
          rw [goodMove_eq]; exact hd
        · by_cases k3 : a.Kind = 3
          · have he : doS m a = (⟨m.Low, m.High, 2, [], m.To, [], false⟩, true) := by unfold doS; rw [if_neg k1, if_neg hp, if_neg k2, if_pos k3]
            rw [he]
            exact goodMove_mk g0 rfl (inRange_same g2 rfl rfl) (.inl ⟨rfl, rfl, rfl, rfl⟩)
          · have he : doS m a = (⟨m.Low, m.High, 1, m.From, [], [], false⟩, true) := by unfold doS; rw [if_neg k1, if_neg hp, if_neg k2, if_neg k3]
            rw [he]
            exact goodMove_mk g0 (inRange_same g1 rfl rfl) rfl (.inr ⟨rfl, .inl rfl⟩)
  · exact hg
theorem oneI_eq {m : TMove} (hg : goodMove m = true) (a : TMoveAct) : oneI m a = oneS m a := by
  unfold oneI oneS
  rw [← isMoveAct_eq]
  split
  · rename_i h; exact stepM_eq hg h
  · rfl
theorem oneS_good {m : TMove} (hg : goodMove m = true) (a : TMoveAct) : goodMove (oneS m a).1 = true := by
  unfold oneS
  rw [← isMoveAct_eq]
  split
  · rename_i h; exact stepMS_good hg h
  · exact hg
def stI (r : TMove × List Bool) (a : TMoveAct) : TMove × List Bool := ((oneI r.1 a).1, r.2 ++ [(oneI r.1 a).2])
def stS (r : TMove × List Bool) (a : TMoveAct) : TMove × List Bool := ((oneS r.1 a).1, r.2 ++ [(oneS r.1 a).2])
theorem foldS_good : ∀ (l : List TMoveAct) (r : TMove × List Bool), goodMove r.1 = true → goodMove (l.foldl stS r).1 = true
  | [], _, h => h
  | a :: l, r, h => foldS_good l (stS r a) (oneS_good h a)
theorem foldI_eq : ∀ (l : List TMoveAct) (r : TMove × List Bool), goodMove r.1 = true → l.foldl stI r = l.foldl stS r
  | [], _, _ => rfl
  | a :: l, r, h => by
    have e : stI r a = stS r a := by unfold stI stS; rw [oneI_eq h]
    simp only [List.foldl_cons]
    rw [e]
    exact foldI_eq l (stS r a) (oneS_good h a)
theorem foldI_len : ∀ (l : List TMoveAct) (r : TMove × List Bool), (l.foldl stI r).2.length = r.2.length + l.length
  | [], _ => rfl
  | a :: l, r => by
    simp only [List.foldl_cons, List.length_cons]
    rw [foldI_len l (stI r a)]
    unfold stI; simp only [List.length_append, List.length_cons, List.length_nil]; omega
theorem foldS_len : ∀ (l : List TMoveAct) (r : TMove × List Bool), (l.foldl stS r).2.length = r.2.length + l.length
  | [], _ => rfl
  | a :: l, r => by
    simp only [List.foldl_cons, List.length_cons]
    rw [foldS_len l (stS r a)]
    unfold stS; simp only [List.length_append, List.length_cons, List.length_nil]; omega
theorem runS_good {m : TMove} (hg : goodMove m = true) (l : List TMoveAct) : goodMove (runS m l).1 = true := foldS_good l (m, []) hg
theorem runI_eq {m : TMove} (hg : goodMove m = true) (l : List TMoveAct) : runI m l = runS m l := foldI_eq l (m, []) hg
theorem runI_good {m : TMove} (hg : goodMove m = true) (l : List TMoveAct) : goodMove (runI m l).1 = true := by rw [runI_eq hg]; exact runS_good hg l
theorem runI_len (m : TMove) (l : List TMoveAct) : (runI m l).2.length = l.length := (foldI_len l (m, [])).trans (Nat.zero_add _)
theorem runS_len (m : TMove) (l : List TMoveAct) : (runS m l).2.length = l.length := (foldS_len l (m, [])).trans (Nat.zero_add _)
theorem playMove_eq (m : TMove) (l : List TMoveAct) : playMove m l = playMoveS m l := by
  unfold playMove playMoveS
  rw [← goodMove_eq]
  split
  · rfl
  · rename_i h
    have hg : goodMove m = true := by cases hg : goodMove m with | true => rfl | false => (rw [hg] at h; simp at h)
    rw [runI_eq hg]
end Go.M

set_option linter.unusedVariables false
set_option linter.unusedSimpArgs false
set_option maxRecDepth 100000
namespace Go.Proofs.Yteliahajeokciaa
open Go Go.AV Go.M
attribute [local irreducible] OpW OpA OpS AWP FSpec ESpec RetOk RvDen Le Ev GuardIs
theorem within_spec (a b c : Int) : FSpec Try.prog 108 [AV.int a, AV.int b, AV.int c] (AV.bool (within a b c)) := by
  refine spec_of_awp Try.func108 rfl Try.ntmps108 rfl ?_
  refine awp_seq ?_
  refine awp_region ?_
  refine sq_plain rfl rfl rfl (w_assign rfl ev_cb) ?_
  refine sq_nil ?_
  refine awp_seq ?_
  refine awp_region ?_
  refine sq_plain rfl rfl rfl (w_move rfl (ev_tmp rfl)) ?_
  refine sq_plain rfl rfl rfl (w_move rfl (ev_tmp rfl)) ?_
  refine sq_plain rfl rfl rfl (w_geq rfl (ev_tmp rfl) (ev_tmp rfl)) ?_
  refine sq_plain rfl rfl rfl (w_move rfl (ev_tmp rfl)) ?_
  refine sq_grd rfl rfl (guard_t rfl rfl rfl) (fun hc => w_move rfl (ev_tmp rfl)) ?_
  refine sq_grd rfl rfl (guard_t rfl rfl rfl) (fun hc => w_move rfl (ev_tmp rfl)) ?_
  refine sq_grd rfl rfl (guard_t rfl rfl rfl) (fun hc => w_leq rfl (ev_whn rfl hc) (ev_whn rfl hc)) ?_
  refine sq_plain rfl rfl rfl (w_and rfl (ev_tmp rfl) (evif_w rfl)) ?_
  refine sq_plain rfl rfl rfl (w_assign rfl (ev_tmp rfl)) ?_
  refine sq_nil ?_
  refine awp_ret ?_
  exact retR rfl (rv_tmp' rfl (by first | rfl | (refine congrArg AV.bool ?_; simp_all; done)))
theorem l1In_spec (a b c : Int) : FSpec Try.prog 110 [AV.int a, AV.int b, AV.int c] (AV.bool (within a b c)) := by
  refine spec_of_awp Try.func110 rfl Try.ntmps110 rfl ?_
  refine awp_seq ?_
  refine awp_region ?_
  refine sq_plain rfl rfl rfl (w_assign rfl ev_cb) ?_
  refine sq_nil ?_
  refine awp_seq ?_
  refine awp_region ?_
  refine sq_plain rfl rfl rfl (w_move rfl (ev_tmp rfl)) ?_
  refine sq_plain rfl rfl rfl (w_move rfl (ev_tmp rfl)) ?_
  refine sq_plain rfl rfl rfl (w_geq rfl (ev_tmp rfl) (ev_tmp rfl)) ?_
  refine sq_plain rfl rfl rfl (w_move rfl (ev_tmp rfl)) ?_
  refine sq_grd rfl rfl (guard_t rfl rfl rfl) (fun hc => w_move rfl (ev_tmp rfl)) ?_
  refine sq_grd rfl rfl (guard_t rfl rfl rfl) (fun hc => w_move rfl (ev_tmp rfl)) ?_
  refine sq_grd rfl rfl (guard_t rfl rfl rfl) (fun hc => w_leq rfl (ev_whn rfl hc) (ev_whn rfl hc)) ?_
  refine sq_plain rfl rfl rfl (w_and rfl (ev_tmp rfl) (evif_w rfl)) ?_
  refine sq_plain rfl rfl rfl (w_assign rfl (ev_tmp rfl)) ?_
  refine sq_nil ?_
  refine awp_ret ?_
  exact retR rfl (rv_tmp' rfl (by first | rfl | (refine congrArg AV.bool ?_; simp_all; done)))
theorem lowDig_spec (c : UInt8) : FSpec Try.prog 237 [AV.byte c] (AV.bool (lowDig c)) := by
  refine spec_of_awp Try.func237 rfl Try.ntmps237 rfl ?_
  refine awp_seq ?_
  refine awp_region ?_
  refine sq_plain rfl rfl rfl (w_assign rfl ev_cb) ?_
  refine sq_nil ?_
  refine awp_seq ?_
  refine awp_region ?_
  refine sq_plain rfl rfl rfl (w_move rfl (ev_tmp rfl)) ?_
  refine sq_plain rfl rfl rfl (w_geq rfl (ev_tmp rfl) ev_ci) ?_
  refine sq_plain rfl rfl rfl (w_move rfl (ev_tmp rfl)) ?_
  refine sq_grd rfl rfl (guard_t rfl rfl rfl) (fun hc => w_move rfl (ev_tmp rfl)) ?_
  refine sq_grd rfl rfl (guard_t rfl rfl rfl) (fun hc => w_leq rfl (ev_whn rfl hc) ev_ci) ?_
  refine sq_plain rfl rfl rfl (w_and rfl (ev_tmp rfl) (evif_w rfl)) ?_
  refine sq_plain rfl rfl rfl (w_move rfl (ev_tmp rfl)) ?_
  refine sq_grd rfl rfl (guard_f rfl rfl rfl) (fun hc => w_move rfl (ev_tmp rfl)) ?_
  refine sq_grd rfl rfl (guard_f rfl rfl rfl) (fun hc => w_geq rfl (ev_whn rfl hc) ev_ci) ?_
  refine sq_grd rfl rfl (guard_f rfl rfl rfl) (fun hc => w_move rfl (ev_whn rfl hc)) ?_
  refine sq_grd rfl rfl (guard_wt rfl rfl rfl) (fun hc => w_move rfl (ev_tmp rfl)) ?_
  refine sq_grd rfl rfl (guard_wt rfl rfl rfl) (fun hc => w_leq rfl (ev_whn rfl hc) ev_ci) ?_
  refine sq_grd rfl rfl (guard_f rfl rfl rfl) (fun hc => w_and rfl (ev_whn rfl hc) (evif_w2 rfl hc)) ?_
  refine sq_plain rfl rfl rfl (w_or rfl (ev_tmp rfl) (evif_w rfl)) ?_
  refine sq_plain rfl rfl rfl (w_assign rfl (ev_tmp rfl)) ?_
  refine sq_nil ?_
  refine awp_ret ?_
  exact retR rfl (rv_tmp' rfl (by first | rfl | (refine congrArg AV.bool ?_; simp_all; done)))
theorem idxB_ext (s : Str) (c : UInt8) : ESpec Try.prog 295 [AV.str s, AV.byte c] (AV.int (idxB s c)) := espec_mk fun R w vs h => by
  obtain ⟨v, u, rfl, h1, h2⟩ := denV_two h
  have e1 : v = .string ⟨s.toArray⟩ := h1
  have e2 : u = .int .u8 c.toNat := h2
  subst e1; subst e2
  refine ⟨.int .i64 (idxB s c), ?_, rfl⟩
  rw [run_callFunc_indexByte Try.func295 (by kernel_rfl) (by kernel_rfl) (by kernel_rfl) (by kernel_rfl), run_indexByte_string]
  simp [idxB]
theorem idxB1_spec (s : Str) (c : UInt8) : FSpec Try.prog 277 [AV.str s, AV.byte c] (AV.int (idxB s c)) := by
  refine spec_of_awp Try.func277 rfl Try.ntmps277 rfl ?_
  refine awp_seq ?_
  refine awp_region ?_
  refine sq_plain rfl rfl rfl (w_assign rfl ev_ci) ?_
  refine sq_nil ?_
  refine awp_seq ?_
  refine awp_region ?_
  refine sq_plain rfl rfl rfl (w_move rfl (ev_tmp rfl)) ?_
  refine sq_plain rfl rfl rfl (w_move rfl (ev_tmp rfl)) ?_
  refine sq_plain rfl rfl rfl (w_ext rfl rfl (idxB_ext _ _) (evl_cons (ev_tmp rfl) (evl_cons (ev_tmp rfl) evl_nil))) ?_
  refine sq_plain rfl rfl rfl (w_assign rfl (ev_tmp rfl)) ?_
  refine sq_nil ?_
  refine awp_ret ?_
  exact retR rfl (rv_tmp' rfl (by first | rfl | (refine congrArg AV.bool ?_; simp_all; done)))
theorem idxB_spec (s : Str) (c : UInt8) : FSpec Try.prog 238 [AV.str s, AV.byte c] (AV.int (idxB s c)) := by
  refine spec_of_awp Try.func238 rfl Try.ntmps238 rfl ?_
  refine awp_seq ?_
  refine awp_region ?_
  refine sq_plain rfl rfl rfl (w_assign rfl ev_ci) ?_
  refine sq_nil ?_
  refine awp_seq ?_
  refine awp_region ?_
  refine sq_plain rfl rfl rfl (w_move rfl (ev_tmp rfl)) ?_
  refine sq_plain rfl rfl rfl (w_move rfl (ev_tmp rfl)) ?_
  refine sq_plain rfl rfl rfl (w_call rfl Try.call277 rfl (idxB1_spec _ _) (evl_cons (ev_tmp rfl) (evl_cons (ev_tmp rfl) evl_nil))) ?_
  refine sq_plain rfl rfl rfl (w_assign rfl (ev_tmp rfl)) ?_
  refine sq_nil ?_
  refine awp_ret ?_
  exact retR rfl (rv_tmp' rfl (by first | rfl | (refine congrArg AV.bool ?_; simp_all; done)))
theorem hasB_spec (s o : Str) (hs : s.length ≤ 4611686018427387904) : FSpec Try.prog 152 [AV.str s, AV.str o] (AV.bool (hasB s o)) := by
  refine spec_of_awp Try.func152 rfl Try.ntmps152 rfl ?_
  refine awp_seq ?_
  refine awp_region ?_
  refine sq_plain rfl rfl rfl (w_assign rfl ev_cb) ?_
  refine sq_nil ?_
  refine awp_seq ?_
  refine awp_seq ?_
  refine awp_region ?_
  refine sq_plain rfl rfl rfl (w_move rfl (ev_tmp rfl)) ?_
  refine sq_plain rfl rfl rfl (w_slen rfl Try.underlying9 (ev_tmp rfl)) ?_
  refine sq_plain rfl rfl rfl (w_move rfl ev_ci) ?_
  refine sq_nil ?_
  refine awp_block ?_
  refine awp_loop_i [(0, _), (1, _), (7, _)] _ (fun (i : Nat) => i ≤ s.length ∧ hasB s o = hasB (s.drop i) o) (fun (i : Nat) => []) (fun (i : Nat) => [(8, AV.int i)]) (fun (i : Nat) => s.length - i) (0) ?_ (le_env ⟨rfl, rfl, rfl, rfl, trivial⟩) ?_
  · exact ⟨Nat.zero_le _, rfl⟩
  intro i hinv
  refine awp_seq ?_
  refine awp_region ?_
  refine sq_plain rfl rfl rfl (w_lss rfl (ev_tmp rfl) (ev_tmp rfl)) ?_
  refine sq_nil ?_
  refine awp_seq ?_
  refine awp_cond (ev_tmp rfl) ?_ ?_
  · intro h9
    have k9 := of_decide_eq_true h9; try simp only [List.length_map] at k9
    have hlt : i < s.length := by have := of_decide_eq_true h9; omega
    obtain ⟨c, hc⟩ := get_some hlt
    refine awp_skip ?_
    refine awp_seq ?_
    refine awp_block ?_
    refine awp_seq ?_
    refine awp_region ?_
    refine sq_plain rfl rfl rfl (w_move rfl (ev_tmp rfl)) ?_
    refine sq_plain rfl rfl rfl (w_assign rfl (ev_tmp rfl)) ?_
    refine sq_nil ?_
    refine awp_seq ?_
    refine awp_region ?_
    refine sq_plain rfl rfl rfl (w_move rfl (ev_tmp rfl)) ?_
    refine sq_plain rfl rfl rfl (w_move rfl (ev_tmp rfl)) ?_
    refine sq_plain rfl rfl rfl (w_sidx rfl Try.underlying9 (ev_tmp rfl) (ev_tmp rfl) (by first | omega | ((try simp only [List.length_map, List.length_take, List.length_cons, List.length_nil, chunks_len, szR] at *); omega) | (have hc2 := hc; simp only [Bool.and_eq_true, Bool.or_eq_true, Bool.or_eq_false_iff, Bool.and_eq_false_iff, Bool.not_eq_true', Bool.not_eq_false', decide_eq_true_eq, decide_eq_false_iff_not, beq_iff_eq, bne_iff_ne, List.length_map, List.length_take] at hc2; omega)) (by assumption)) ?_
    refine sq_plain rfl rfl rfl (w_call rfl Try.call237 rfl (lowDig_spec _) (evl_cons (ev_tmp rfl) evl_nil)) ?_
    refine sq_plain rfl rfl rfl (w_not rfl (ev_tmp rfl)) ?_
    refine sq_plain rfl rfl rfl (w_move rfl (ev_tmp rfl)) ?_
    refine sq_grd rfl rfl (guard_t rfl rfl rfl) (fun hc => w_move rfl (ev_tmp rfl)) ?_
    refine sq_grd rfl rfl (guard_t rfl rfl rfl) (fun hc => w_move rfl (ev_tmp rfl)) ?_
    refine sq_grd rfl rfl (guard_t rfl rfl rfl) (fun hc => w_move rfl (ev_tmp rfl)) ?_
    refine sq_grd rfl rfl (guard_t rfl rfl rfl) (fun hc => w_sidx rfl Try.underlying9 (ev_whn rfl hc) (ev_whn rfl hc) (by first | omega | ((try simp only [List.length_map, List.length_take, List.length_cons, List.length_nil, chunks_len, szR] at *); omega) | (have hc2 := hc; simp only [Bool.and_eq_true, Bool.or_eq_true, Bool.or_eq_false_iff, Bool.and_eq_false_iff, Bool.not_eq_true', Bool.not_eq_false', decide_eq_true_eq, decide_eq_false_iff_not, beq_iff_eq, bne_iff_ne, List.length_map, List.length_take] at hc2; omega)) (by assumption)) ?_
    refine sq_grd rfl rfl (guard_t rfl rfl rfl) (fun hc => w_call rfl Try.call238 rfl (idxB_spec _ _) (evl_cons (ev_whn rfl hc) (evl_cons (ev_whn rfl hc) evl_nil))) ?_
    refine sq_grd rfl rfl (guard_t rfl rfl rfl) (fun hc => w_lss rfl (ev_whn rfl hc) ev_ci) ?_
    refine sq_plain rfl rfl rfl (w_and rfl (ev_tmp rfl) (evif_w rfl)) ?_
    refine sq_nil ?_
    refine awp_cond (ev_tmp rfl) ?_ ?_
    · intro h23
      have hfin : hasB s o = false := by rw [hinv.2, drop_some hc, hasB_cons, h23]; rfl
      refine awp_seq ?_
      refine awp_region ?_
      refine sq_plain rfl rfl rfl (w_assign rfl ev_cb) ?_
      refine sq_nil ?_
      refine awp_ret ?_
      exact retR rfl (rv_tmp' rfl (by first | exact congrArg AV.bool hfin.symm | exact congrArg AV.bool (by rw [hinv.2, List.drop_eq_nil_of_le hge]; rfl)))
    · intro h23
      refine awp_skip ?_
      refine awp_region ?_
      refine sq_plain rfl rfl rfl (w_addi rfl (ev_tmp rfl) ev_ci (by first | omega | ((try simp only [List.length_map, List.length_take, List.length_cons, List.length_nil, chunks_len, szR] at *); omega) | (have hc2 := hc; simp only [Bool.and_eq_true, Bool.or_eq_true, Bool.or_eq_false_iff, Bool.and_eq_false_iff, Bool.not_eq_true', Bool.not_eq_false', decide_eq_true_eq, decide_eq_false_iff_not, beq_iff_eq, bne_iff_ne, List.length_map, List.length_take] at hc2; omega))) ?_
      refine sq_plain rfl rfl rfl (w_move rfl (ev_tmp rfl)) ?_
      refine sq_nil ?_
      refine round_end i (i + 1) ?_ ?_ (le_env ⟨rfl, rfl, rfl, rfl, trivial⟩)
      · exact ⟨by omega, by rw [hinv.2, drop_some hc, hasB_cons, h23]; rfl⟩
      · omega
  · intro h9
    have k9 := of_decide_eq_false h9; try simp only [List.length_map] at k9
    have hge : s.length ≤ i := by have := of_decide_eq_false h9; omega
    refine awp_exit ?_
    refine awp_seq ?_
    refine awp_region ?_
    refine sq_plain rfl rfl rfl (w_assign rfl ev_cb) ?_
    refine sq_nil ?_
    refine awp_ret ?_
    exact retR rfl (rv_tmp' rfl (by first | exact congrArg AV.bool hfin.symm | exact congrArg AV.bool (by rw [hinv.2, List.drop_eq_nil_of_le hge]; rfl)))
theorem l3Bytes_spec (s o : Str) (hs : s.length ≤ 4611686018427387904) (ho : o.length ≤ 4611686018427387904) : FSpec Try.prog 239 [AV.str s, AV.str o] (AV.bool (l3Bytes s o)) := by
  refine spec_of_awp Try.func239 rfl Try.ntmps239 rfl ?_
  refine awp_seq ?_
  refine awp_region ?_
  refine sq_plain rfl rfl rfl (w_assign rfl ev_cb) ?_
  refine sq_nil ?_
  refine awp_seq ?_
  refine awp_seq ?_
  refine awp_region ?_
  refine sq_plain rfl rfl rfl (w_assign rfl ev_ci) ?_
  refine sq_nil ?_
  refine awp_block ?_
  refine awp_loop_i [(0, _), (1, _)] _ (fun (i : Nat) => i ≤ s.length ∧ l3Bytes s o = l3Bytes (s.drop i) o) (fun (i : Nat) => []) (fun (i : Nat) => [(5, AV.int i)]) (fun (i : Nat) => s.length - i) (0) ?_ (le_env ⟨rfl, rfl, rfl, trivial⟩) ?_
  · exact ⟨Nat.zero_le _, rfl⟩
  intro i hinv
  have hinv0 := hinv; clear hinv
  refine awp_seq ?_
  refine awp_seq ?_
  refine awp_region ?_
  refine sq_plain rfl rfl rfl (w_move rfl (ev_tmp rfl)) ?_
  refine sq_plain rfl rfl rfl (w_move rfl (ev_tmp rfl)) ?_
  refine sq_plain rfl rfl rfl (w_slen rfl Try.underlying9 (ev_tmp rfl)) ?_
  refine sq_plain rfl rfl rfl (w_lss rfl (ev_tmp rfl) (ev_tmp rfl)) ?_
  refine sq_nil ?_
  refine awp_cond (ev_tmp rfl) ?_ ?_
  · intro h11
    have k11 := of_decide_eq_true h11; try simp only [List.length_map] at k11
    have hlt : i < s.length := by have := of_decide_eq_true h11; omega
    obtain ⟨c, hc⟩ := get_some hlt
    refine awp_skip ?_
    refine awp_seq ?_
    refine awp_block ?_
    refine awp_seq ?_
    refine awp_region ?_
    refine sq_plain rfl rfl rfl (w_move rfl (ev_tmp rfl)) ?_
    refine sq_plain rfl rfl rfl (w_move rfl (ev_tmp rfl)) ?_
    refine sq_plain rfl rfl rfl (w_sidx rfl Try.underlying9 (ev_tmp rfl) (ev_tmp rfl) (by first | omega | ((try simp only [List.length_map, List.length_take, List.length_cons, List.length_nil, chunks_len, szR] at *); omega) | (have hc2 := hc; simp only [Bool.and_eq_true, Bool.or_eq_true, Bool.or_eq_false_iff, Bool.and_eq_false_iff, Bool.not_eq_true', Bool.not_eq_false', decide_eq_true_eq, decide_eq_false_iff_not, beq_iff_eq, bne_iff_ne, List.length_map, List.length_take] at hc2; omega)) (by assumption)) ?_
    refine sq_plain rfl rfl rfl (w_geq rfl (ev_tmp rfl) ev_ci) ?_
    refine sq_plain rfl rfl rfl (w_move rfl (ev_tmp rfl)) ?_
    refine sq_grd rfl rfl (guard_t rfl rfl rfl) (fun hc => w_move rfl (ev_tmp rfl)) ?_
    refine sq_grd rfl rfl (guard_t rfl rfl rfl) (fun hc => w_move rfl (ev_tmp rfl)) ?_
    refine sq_grd rfl rfl (guard_t rfl rfl rfl) (fun hc => w_sidx rfl Try.underlying9 (ev_whn rfl hc) (ev_whn rfl hc) (by first | omega | ((try simp only [List.length_map, List.length_take, List.length_cons, List.length_nil, chunks_len, szR] at *); omega) | (have hc2 := hc; simp only [Bool.and_eq_true, Bool.or_eq_true, Bool.or_eq_false_iff, Bool.and_eq_false_iff, Bool.not_eq_true', Bool.not_eq_false', decide_eq_true_eq, decide_eq_false_iff_not, beq_iff_eq, bne_iff_ne, List.length_map, List.length_take] at hc2; omega)) (by assumption)) ?_
    refine sq_grd rfl rfl (guard_t rfl rfl rfl) (fun hc => w_leq rfl (ev_whn rfl hc) ev_ci) ?_
    refine sq_plain rfl rfl rfl (w_and rfl (ev_tmp rfl) (evif_w rfl)) ?_
    refine sq_plain rfl rfl rfl (w_move rfl (ev_tmp rfl)) ?_
    refine sq_grd rfl rfl (guard_f rfl rfl rfl) (fun hc => w_move rfl (ev_tmp rfl)) ?_
    refine sq_grd rfl rfl (guard_f rfl rfl rfl) (fun hc => w_move rfl (ev_tmp rfl)) ?_
    refine sq_grd rfl rfl (guard_f rfl rfl rfl) (fun hc => w_sidx rfl Try.underlying9 (ev_whn rfl hc) (ev_whn rfl hc) (by first | omega | ((try simp only [List.length_map, List.length_take, List.length_cons, List.length_nil, chunks_len, szR] at *); omega) | (have hc2 := hc; simp only [Bool.and_eq_true, Bool.or_eq_true, Bool.or_eq_false_iff, Bool.and_eq_false_iff, Bool.not_eq_true', Bool.not_eq_false', decide_eq_true_eq, decide_eq_false_iff_not, beq_iff_eq, bne_iff_ne, List.length_map, List.length_take] at hc2; omega)) (by assumption)) ?_
    refine sq_grd rfl rfl (guard_f rfl rfl rfl) (fun hc => w_geq rfl (ev_whn rfl hc) ev_ci) ?_
    refine sq_grd rfl rfl (guard_f rfl rfl rfl) (fun hc => w_move rfl (ev_whn rfl hc)) ?_
    refine sq_grd rfl rfl (guard_wt rfl rfl rfl) (fun hc => w_move rfl (ev_tmp rfl)) ?_
    refine sq_grd rfl rfl (guard_wt rfl rfl rfl) (fun hc => w_move rfl (ev_tmp rfl)) ?_
    refine sq_grd rfl rfl (guard_wt rfl rfl rfl) (fun hc => w_sidx rfl Try.underlying9 (ev_whn rfl hc) (ev_whn rfl hc) (by first | omega | ((try simp only [List.length_map, List.length_take, List.length_cons, List.length_nil, chunks_len, szR] at *); omega) | (have hc2 := hc; simp only [Bool.and_eq_true, Bool.or_eq_true, Bool.or_eq_false_iff, Bool.and_eq_false_iff, Bool.not_eq_true', Bool.not_eq_false', decide_eq_true_eq, decide_eq_false_iff_not, beq_iff_eq, bne_iff_ne, List.length_map, List.length_take] at hc2; omega)) (by assumption)) ?_
    refine sq_grd rfl rfl (guard_wt rfl rfl rfl) (fun hc => w_leq rfl (ev_whn rfl hc) ev_ci) ?_
    refine sq_grd rfl rfl (guard_f rfl rfl rfl) (fun hc => w_and rfl (ev_whn rfl hc) (evif_w2 rfl hc)) ?_
    refine sq_plain rfl rfl rfl (w_or rfl (ev_tmp rfl) (evif_w rfl)) ?_
    refine sq_plain rfl rfl rfl (w_assign rfl (ev_tmp rfl)) ?_
    refine sq_nil ?_
    refine awp_seq ?_
    refine awp_seq ?_
    refine awp_region ?_
    refine sq_plain rfl rfl rfl (w_assign rfl ev_ci) ?_
    refine sq_nil ?_
    refine awp_block ?_
    refine awp_loop_i2 [(0, _), (1, _), (5, _), (8, _), (9, _), (10, _), (11, _), (14, _), (15, _), (16, _), (17, _), (18, _), (23, _), (24, _), (35, _)] _ (fun (k : Nat) (b : Bool) => k ≤ o.length ∧ (lowDig c || o.any fun d => ((c.toNat : Int) == (d.toNat : Int))) = (b || (o.drop k).any fun d => ((c.toNat : Int) == (d.toNat : Int)))) (fun (k : Nat) (b : Bool) => []) (fun (k : Nat) (b : Bool) => [(6, AV.bool b), (7, AV.int k)]) (fun (k : Nat) (b : Bool) => o.length - k) (0) (lowDig c) ?_ (le_env ⟨rfl, rfl, rfl, rfl, rfl, rfl, rfl, rfl, rfl, rfl, rfl, rfl, rfl, rfl, rfl, rfl, rfl, trivial⟩) ?_
    · exact ⟨Nat.zero_le _, rfl⟩
    intro k b hinv
    refine awp_seq ?_
    refine awp_seq ?_
    refine awp_region ?_
    refine sq_plain rfl rfl rfl (w_move rfl (ev_tmp rfl)) ?_
    refine sq_plain rfl rfl rfl (w_move rfl (ev_tmp rfl)) ?_
    refine sq_plain rfl rfl rfl (w_slen rfl Try.underlying9 (ev_tmp rfl)) ?_
    refine sq_plain rfl rfl rfl (w_lss rfl (ev_tmp rfl) (ev_tmp rfl)) ?_
    refine sq_nil ?_
    refine awp_cond (ev_tmp rfl) ?_ ?_
    · intro h39
      have k39 := of_decide_eq_true h39; try simp only [List.length_map] at k39
      have hlt2 : k < o.length := by have := of_decide_eq_true h39; omega
      obtain ⟨d, hd⟩ := get_some hlt2
      refine awp_skip ?_
      refine awp_seq ?_
      refine awp_block ?_
      refine awp_region_any (by kernel_rfl) (by kernel_rfl) rfl ?_
      refine ch_plain rfl rfl (w_move rfl (ev_tmp rfl)) ?_
      refine ch_plain rfl rfl (w_move rfl (ev_tmp rfl)) ?_
      refine ch_grd rfl (guard_f rfl rfl rfl) (fun hc => w_move rfl (ev_tmp rfl)) ?_
      refine ch_grd rfl (guard_f rfl rfl rfl) (fun hc => w_move rfl (ev_tmp rfl)) ?_
      refine ch_grd rfl (guard_f rfl rfl rfl) (fun hc => w_sidx rfl Try.underlying9 (ev_whn rfl hc) (ev_whn rfl hc) (by first | omega | ((try simp only [List.length_map, List.length_take, List.length_cons, List.length_nil, chunks_len, szR] at *); omega) | (have hc2 := hc; simp only [Bool.and_eq_true, Bool.or_eq_true, Bool.or_eq_false_iff, Bool.and_eq_false_iff, Bool.not_eq_true', Bool.not_eq_false', decide_eq_true_eq, decide_eq_false_iff_not, beq_iff_eq, bne_iff_ne, List.length_map, List.length_take] at hc2; omega)) (by assumption)) ?_
      refine ch_grd rfl (guard_f rfl rfl rfl) (fun hc => w_move rfl (ev_tmp rfl)) ?_
      refine ch_grd rfl (guard_f rfl rfl rfl) (fun hc => w_move rfl (ev_tmp rfl)) ?_
      refine ch_grd rfl (guard_f rfl rfl rfl) (fun hc => w_sidx rfl Try.underlying9 (ev_whn rfl hc) (ev_whn rfl hc) (by first | omega | ((try simp only [List.length_map, List.length_take, List.length_cons, List.length_nil, chunks_len, szR] at *); omega) | (have hc2 := hc; simp only [Bool.and_eq_true, Bool.or_eq_true, Bool.or_eq_false_iff, Bool.and_eq_false_iff, Bool.not_eq_true', Bool.not_eq_false', decide_eq_true_eq, decide_eq_false_iff_not, beq_iff_eq, bne_iff_ne, List.length_map, List.length_take] at hc2; omega)) (by assumption)) ?_
      refine ch_grd rfl (guard_f rfl rfl rfl) (fun hc => w_eql rfl (ev_whn rfl hc) (ev_whn rfl hc)) ?_
      refine ch_plain rfl rfl (w_or rfl (ev_tmp rfl) (evif_w rfl)) ?_
      refine ch_plain rfl rfl (w_assign rfl (ev_tmp rfl)) ?_
      refine ch_nil ?_
      refine awp_region ?_
      refine sq_plain rfl rfl rfl (w_move rfl (ev_tmp rfl)) ?_
      refine sq_plain rfl rfl rfl (w_addi rfl (ev_tmp rfl) ev_ci (by first | omega | ((try simp only [List.length_map, List.length_take, List.length_cons, List.length_nil, chunks_len, szR] at *); omega) | (have hc2 := hc; simp only [Bool.and_eq_true, Bool.or_eq_true, Bool.or_eq_false_iff, Bool.and_eq_false_iff, Bool.not_eq_true', Bool.not_eq_false', decide_eq_true_eq, decide_eq_false_iff_not, beq_iff_eq, bne_iff_ne, List.length_map, List.length_take] at hc2; omega))) ?_
      refine sq_plain rfl rfl rfl (w_assign rfl (ev_tmp rfl)) ?_
      refine sq_nil ?_
      refine round_end2 k b (k + 1) ((b || ((c.toNat : Int) == (d.toNat : Int)))) ?_ ?_ (le_env ⟨rfl, rfl, rfl, rfl, rfl, rfl, rfl, rfl, rfl, rfl, rfl, rfl, rfl, rfl, rfl, rfl, rfl, trivial⟩)
      · exact ⟨by omega, by rw [hinv.2, drop_some hd, List.any_cons, Bool.or_assoc]⟩
      · omega
    · intro h39
      have k39 := of_decide_eq_false h39; try simp only [List.length_map] at k39
      have hge2 : o.length ≤ k := by have := of_decide_eq_false h39; omega
      have hg : (lowDig c || o.any fun d => ((c.toNat : Int) == (d.toNat : Int))) = b := by rw [hinv.2, List.drop_eq_nil_of_le hge2]; simp
      refine awp_exit ?_
      refine awp_seq ?_
      refine awp_region ?_
      refine sq_plain rfl rfl rfl (w_move rfl (ev_tmp rfl)) ?_
      refine sq_plain rfl rfl rfl (w_not rfl (ev_tmp rfl)) ?_
      refine sq_nil ?_
      refine awp_cond (ev_tmp rfl) ?_ ?_
      · intro h53
        have hfin : l3Bytes s o = false := by rw [hinv0.2, drop_some hc, l3Bytes_cons, hg]; cases b <;> simp_all
        refine awp_seq ?_
        refine awp_region ?_
        refine sq_plain rfl rfl rfl (w_assign rfl ev_cb) ?_
        refine sq_nil ?_
        refine awp_ret ?_
        exact retR rfl (rv_tmp' rfl (by first | exact congrArg AV.bool hfin.symm | exact congrArg AV.bool (by rw [hinv0.2, List.drop_eq_nil_of_le hge]; rfl)))
      · intro h53
        have hb : b = true := by cases b <;> simp_all
        refine awp_skip ?_
        refine awp_region ?_
        refine sq_plain rfl rfl rfl (w_move rfl (ev_tmp rfl)) ?_
        refine sq_plain rfl rfl rfl (w_addi rfl (ev_tmp rfl) ev_ci (by first | omega | ((try simp only [List.length_map, List.length_take, List.length_cons, List.length_nil, chunks_len, szR] at *); omega) | (have hc2 := hc; simp only [Bool.and_eq_true, Bool.or_eq_true, Bool.or_eq_false_iff, Bool.and_eq_false_iff, Bool.not_eq_true', Bool.not_eq_false', decide_eq_true_eq, decide_eq_false_iff_not, beq_iff_eq, bne_iff_ne, List.length_map, List.length_take] at hc2; omega))) ?_
        refine sq_plain rfl rfl rfl (w_assign rfl (ev_tmp rfl)) ?_
        refine sq_nil ?_
        refine round_end i (i + 1) ?_ ?_ (le_env ⟨rfl, rfl, rfl, trivial⟩)
        · exact ⟨by omega, by rw [hinv0.2, drop_some hc, l3Bytes_cons, hg, hb]; rfl⟩
        · omega
  · intro h11
    have k11 := of_decide_eq_false h11; try simp only [List.length_map] at k11
    have hge : s.length ≤ i := by have := of_decide_eq_false h11; omega
    refine awp_exit ?_
    refine awp_seq ?_
    refine awp_region ?_
    refine sq_plain rfl rfl rfl (w_assign rfl ev_cb) ?_
    refine sq_nil ?_
    refine awp_ret ?_
    exact retR rfl (rv_tmp' rfl (by first | exact congrArg AV.bool hfin.symm | exact congrArg AV.bool (by rw [hinv0.2, List.drop_eq_nil_of_le hge]; rfl)))
theorem within_iff {a b c : Int} (h : within a b c = true) : b ≤ a ∧ a ≤ c := by
  simp only [within, Bool.and_eq_true, decide_eq_true_eq] at h; exact h
theorem goodKey_spec (s : Str) (hs : s.length ≤ 4611686018427387904) : FSpec Try.prog 71 [AV.str s] (AV.bool (goodKey s)) := by
  refine spec_of_awp Try.func71 rfl Try.ntmps71 rfl ?_
  refine awp_seq ?_
  refine awp_region ?_
  refine sq_plain rfl rfl rfl (w_assign rfl ev_cb) ?_
  refine sq_nil ?_
  refine awp_seq ?_
  refine awp_region ?_
  refine sq_plain rfl rfl rfl (w_move rfl (ev_tmp rfl)) ?_
  refine sq_plain rfl rfl rfl (w_slen rfl Try.underlying9 (ev_tmp rfl)) ?_
  refine sq_plain rfl rfl rfl (w_call rfl Try.call108 rfl (within_spec _ _ _) (evl_cons (ev_tmp rfl) (evl_cons ev_ci (evl_cons ev_ci evl_nil)))) ?_
  refine sq_plain rfl rfl rfl (w_move rfl (ev_tmp rfl)) ?_
  refine sq_grd rfl rfl (guard_t rfl rfl rfl) (fun hc => w_move rfl (ev_tmp rfl)) ?_
  refine sq_grd rfl rfl (guard_t rfl rfl rfl) (fun hc => w_call rfl Try.call152 rfl (hasB_spec _ _ (by omega)) (evl_cons (ev_whn rfl hc) (evl_cons (ev_cs' (l := [46, 47]) rfl) evl_nil))) ?_
  refine sq_plain rfl rfl rfl (w_and rfl (ev_tmp rfl) (evif_w rfl)) ?_
  refine sq_plain rfl rfl rfl (w_assign rfl (ev_tmp rfl)) ?_
  refine sq_nil ?_
  refine awp_ret ?_
  exact retR rfl (rv_tmp' rfl (by first | rfl | (refine congrArg AV.bool ?_; simp_all; done)))
theorem goodVal_spec (s : Str) (hs : s.length ≤ 4611686018427387904) : FSpec Try.prog 56 [AV.str s] (AV.bool (goodVal s)) := by
  refine spec_of_awp Try.func56 rfl Try.ntmps56 rfl ?_
  refine awp_seq ?_
  refine awp_region ?_
  refine sq_plain rfl rfl rfl (w_assign rfl ev_cb) ?_
  refine sq_nil ?_
  refine awp_seq ?_
  refine awp_region ?_
  refine sq_plain rfl rfl rfl (w_move rfl (ev_tmp rfl)) ?_
  refine sq_plain rfl rfl rfl (w_slen rfl Try.underlying9 (ev_tmp rfl)) ?_
  refine sq_plain rfl rfl rfl (w_leq rfl (ev_tmp rfl) ev_ci) ?_
  refine sq_plain rfl rfl rfl (w_move rfl (ev_tmp rfl)) ?_
  refine sq_grd rfl rfl (guard_t rfl rfl rfl) (fun hc => w_move rfl (ev_tmp rfl)) ?_
  refine sq_grd rfl rfl (guard_t rfl rfl rfl) (fun hc => w_call rfl Try.call152 rfl (hasB_spec _ _ (by omega)) (evl_cons (ev_whn rfl hc) (evl_cons (ev_cs' (l := [46, 45, 44, 95]) rfl) evl_nil))) ?_
  refine sq_plain rfl rfl rfl (w_and rfl (ev_tmp rfl) (evif_w rfl)) ?_
  refine sq_plain rfl rfl rfl (w_assign rfl (ev_tmp rfl)) ?_
  refine sq_nil ?_
  refine awp_ret ?_
  exact retR rfl (rv_tmp' rfl (by first | rfl | (refine congrArg AV.bool ?_; simp_all; done)))
theorem l3Key_spec (s : Str) (hs : s.length ≤ 4611686018427387904) : FSpec Try.prog 166 [AV.str s] (AV.bool (l3Key s)) := by
  refine spec_of_awp Try.func166 rfl Try.ntmps166 rfl ?_
  refine awp_seq ?_
  refine awp_region ?_
  refine sq_plain rfl rfl rfl (w_assign rfl ev_cb) ?_
  refine sq_nil ?_
  refine awp_seq ?_
  refine awp_region ?_
  refine sq_plain rfl rfl rfl (w_move rfl (ev_tmp rfl)) ?_
  refine sq_plain rfl rfl rfl (w_slen rfl Try.underlying9 (ev_tmp rfl)) ?_
  refine sq_plain rfl rfl rfl (w_call rfl Try.call110 rfl (l1In_spec _ _ _) (evl_cons (ev_tmp rfl) (evl_cons ev_ci (evl_cons ev_ci evl_nil)))) ?_
  refine sq_plain rfl rfl rfl (w_move rfl (ev_tmp rfl)) ?_
  refine sq_grd rfl rfl (guard_t rfl rfl rfl) (fun hc => w_move rfl (ev_tmp rfl)) ?_
  refine sq_grd rfl rfl (guard_t rfl rfl rfl) (fun hc => w_call rfl Try.call239 rfl (l3Bytes_spec _ _ (by omega) (by decide)) (evl_cons (ev_whn rfl hc) (evl_cons (ev_cs' (l := [46, 47]) rfl) evl_nil))) ?_
  refine sq_plain rfl rfl rfl (w_and rfl (ev_tmp rfl) (evif_w rfl)) ?_
  refine sq_plain rfl rfl rfl (w_assign rfl (ev_tmp rfl)) ?_
  refine sq_nil ?_
  refine awp_ret ?_
  exact retR rfl (rv_tmp' rfl (by first | rfl | (refine congrArg AV.bool ?_; simp_all; done)))
end Go.Proofs.Yteliahajeokciaa
