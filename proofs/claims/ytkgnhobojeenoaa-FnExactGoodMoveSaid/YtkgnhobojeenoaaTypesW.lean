/- Walks: the functions of the laws that count, copy and compare. -/
import Derived.Test.YtkgnhobojeenoaaTypesM
import Derived.Test.YtkgnhobojeenoaaRows
set_option linter.unusedVariables false
set_option linter.unusedSimpArgs false
set_option maxRecDepth 100000
namespace Go.Proofs.Ytkgnhobojeenoaa
open Go Go.AV Go.M
attribute [local irreducible] OpW OpA OpS AWP FSpec ESpec RetOk RvDen Le Ev GuardIs
theorem szWrite_spec (a : TWrite) (left : Int) (hok : a.ok) (h0 : 0 ≤ left) (h1 : left ≤ 1048576) : FSpec Try.prog 84 [AV.agg a.cs, AV.int left] (AV.int (szR a.size left)) := by
  obtain ⟨oKey, oVal⟩ := hok
  refine spec_of_awp Try.func84 rfl Try.ntmps84 rfl ?_
  refine awp_seq ?_
  refine awp_region ?_
  refine sq_box rfl rfl rfl rfl (ev_tmp rfl) ?_
  intro b2
  refine sq_plain rfl rfl rfl (w_assign rfl ev_ci) ?_
  refine sq_nil ?_
  refine awp_seq ?_
  refine awp_region ?_
  refine sq_plain rfl rfl rfl (w_move rfl (ev_tmp rfl)) ?_
  refine sq_plain rfl rfl rfl (w_fldB rfl Try.underlying104 rfl Try.sizeOf9 (ev_tmp rfl)) ?_
  refine sq_plain rfl rfl rfl (w_loadB1 0 rfl (ev_tmp rfl) rfl Try.isAgg9 rfl) ?_
  refine sq_plain rfl rfl rfl (w_slen rfl Try.underlying9 (ev_tmp rfl)) ?_
  refine sq_plain rfl rfl rfl (w_subi rfl (ev_tmp rfl) (ev_tmp rfl) (by first | omega | ((try simp only [List.length_map, szR] at *); omega) | (have hc2 := hc; simp only [Bool.and_eq_true, Bool.or_eq_true, Bool.or_eq_false_iff, Bool.and_eq_false_iff, Bool.not_eq_true', Bool.not_eq_false', decide_eq_true_eq, decide_eq_false_iff_not, beq_iff_eq, bne_iff_ne] at hc2; omega))) ?_
  refine sq_plain rfl rfl rfl (w_assign rfl (ev_tmp rfl)) ?_
  refine sq_nil ?_
  refine awp_seq ?_
  refine awp_seq ?_
  refine awp_region ?_
  refine sq_plain rfl rfl rfl (w_move rfl (ev_tmp rfl)) ?_
  refine sq_plain rfl rfl rfl (w_lss rfl (ev_tmp rfl) ev_ci) ?_
  refine sq_nil ?_
  refine awp_cond (ev_tmp rfl) ?_ ?_
  · intro h11
    have k11 := of_decide_eq_true h11; try simp only [List.length_map] at k11
    refine awp_seq ?_
    refine awp_region ?_
    refine sq_plain rfl rfl rfl (w_assign rfl ev_ci) ?_
    refine sq_nil ?_
    refine awp_ret ?_
    exact retR rfl (rv_tmp' rfl (by exact congrArg AV.int (by simp only [szR, TWrite.size, decide_eq_true_eq, decide_eq_false_iff_not] at *; omega)))
  · intro h11
    have k11 := of_decide_eq_false h11; try simp only [List.length_map] at k11
    refine awp_skip ?_
    refine awp_seq ?_
    refine awp_region ?_
    refine sq_plain rfl rfl rfl (w_move rfl (ev_tmp rfl)) ?_
    refine sq_plain rfl rfl rfl (w_fldB rfl Try.underlying104 rfl Try.sizeOf9 (ev_tmp rfl)) ?_
    refine sq_plain rfl rfl rfl (w_loadB1 0 rfl (ev_tmp rfl) rfl Try.isAgg9 rfl) ?_
    refine sq_plain rfl rfl rfl (w_slen rfl Try.underlying9 (ev_tmp rfl)) ?_
    refine sq_plain rfl rfl rfl (w_subi rfl (ev_tmp rfl) (ev_tmp rfl) (by first | omega | ((try simp only [List.length_map, szR] at *); omega) | (have hc2 := hc; simp only [Bool.and_eq_true, Bool.or_eq_true, Bool.or_eq_false_iff, Bool.and_eq_false_iff, Bool.not_eq_true', Bool.not_eq_false', decide_eq_true_eq, decide_eq_false_iff_not, beq_iff_eq, bne_iff_ne] at hc2; omega))) ?_
    refine sq_plain rfl rfl rfl (w_assign rfl (ev_tmp rfl)) ?_
    refine sq_nil ?_
    refine awp_seq ?_
    refine awp_seq ?_
    refine awp_region ?_
    refine sq_plain rfl rfl rfl (w_move rfl (ev_tmp rfl)) ?_
    refine sq_plain rfl rfl rfl (w_lss rfl (ev_tmp rfl) ev_ci) ?_
    refine sq_nil ?_
    refine awp_cond (ev_tmp rfl) ?_ ?_
    · intro h18
      have k18 := of_decide_eq_true h18; try simp only [List.length_map] at k18
      refine awp_seq ?_
      refine awp_region ?_
      refine sq_plain rfl rfl rfl (w_assign rfl ev_ci) ?_
      refine sq_nil ?_
      refine awp_ret ?_
      exact retR rfl (rv_tmp' rfl (by exact congrArg AV.int (by simp only [szR, TWrite.size, decide_eq_true_eq, decide_eq_false_iff_not] at *; omega)))
    · intro h18
      have k18 := of_decide_eq_false h18; try simp only [List.length_map] at k18
      refine awp_skip ?_
      refine awp_seq ?_
      refine awp_region ?_
      refine sq_plain rfl rfl rfl (w_move rfl (ev_tmp rfl)) ?_
      refine sq_plain rfl rfl rfl (w_assign rfl (ev_tmp rfl)) ?_
      refine sq_nil ?_
      refine awp_ret ?_
      exact retR rfl (rv_tmp' rfl (by exact congrArg AV.int (by simp only [szR, TWrite.size, decide_eq_true_eq, decide_eq_false_iff_not] at *; omega)))
theorem toWrite_spec (a : TWrite) (hs : a.size ≤ 1048576) : FSpec Try.prog 86 [AV.agg a.cs] (AV.agg a.cs) := by
  unfold TWrite.size at hs
  refine spec_of_awp Try.func86 rfl Try.ntmps86 rfl ?_
  refine awp_seq ?_
  refine awp_region ?_
  refine sq_box rfl rfl rfl rfl (ev_tmp rfl) ?_
  intro b1
  refine sq_alloc rfl rfl rfl rfl Try.zeroValue105 rfl ?_
  intro b2
  refine sq_nil ?_
  refine awp_seq ?_
  refine awp_region ?_
  refine sq_alloc rfl rfl rfl rfl Try.zeroValue105 rfl ?_
  intro b3
  refine sq_nil ?_
  refine awp_seq ?_
  refine awp_region ?_
  refine sq_plain rfl rfl rfl (w_fldB rfl Try.underlying104 rfl Try.sizeOf9 (ev_tmp rfl)) ?_
  refine sq_plain rfl rfl rfl (w_loadB1 2 rfl (ev_tmp rfl) rfl Try.isAgg9 rfl) ?_
  refine sq_plain rfl rfl rfl (w_fldB rfl Try.underlying105 rfl Try.sizeOf9 (ev_tmp rfl)) ?_
  refine sq_storeB1 0 rfl rfl rfl (ev_tmp rfl) (ev_tmp rfl) (as_str _) rfl Try.sizeOf9 rfl ?_
  refine sq_nil ?_
  refine awp_seq ?_
  refine awp_region ?_
  refine sq_plain rfl rfl rfl (w_fldB rfl Try.underlying104 rfl Try.sizeOf9 (ev_tmp rfl)) ?_
  refine sq_plain rfl rfl rfl (w_loadB1 2 rfl (ev_tmp rfl) rfl Try.isAgg9 rfl) ?_
  refine sq_plain rfl rfl rfl (w_fldB rfl Try.underlying105 rfl Try.sizeOf9 (ev_tmp rfl)) ?_
  refine sq_storeB1 0 rfl rfl rfl (ev_tmp rfl) (ev_tmp rfl) (as_str _) rfl Try.sizeOf9 rfl ?_
  refine sq_nil ?_
  refine awp_seq ?_
  refine awp_region ?_
  refine sq_plain rfl rfl rfl (w_fldB rfl Try.underlying104 rfl Try.sizeOf4 (ev_tmp rfl)) ?_
  refine sq_plain rfl rfl rfl (w_loadB1 2 rfl (ev_tmp rfl) rfl Try.isAgg4 rfl) ?_
  refine sq_plain rfl rfl rfl (w_fldB rfl Try.underlying105 rfl Try.sizeOf4 (ev_tmp rfl)) ?_
  refine sq_storeB1 0 rfl rfl rfl (ev_tmp rfl) (ev_tmp rfl) (as_bool _) rfl Try.sizeOf4 rfl ?_
  refine sq_nil ?_
  refine awp_seq ?_
  refine awp_region ?_
  refine sq_plain rfl rfl rfl (w_loadA 0 rfl (ev_tmp rfl) rfl Try.isAgg105 Try.sizeOf105 rfl) ?_
  refine sq_storeB0 1 rfl rfl rfl (ev_tmp rfl) (ev_tmp rfl) (as_agg _) rfl Try.sizeOf105 rfl ?_
  refine sq_nil ?_
  refine awp_ret ?_
  exact retR rfl (rv_cell (ys := _) 1 rfl rfl Try.isAgg105 Try.sizeOf105 rfl)
theorem eqWrite_spec (a b : TWrite) : FSpec Try.prog 90 [AV.agg a.cs, AV.agg b.cs] (AV.bool (decide (a = b))) := by
  refine spec_of_awp Try.func90 rfl Try.ntmps90 rfl ?_
  refine awp_seq ?_
  refine awp_region ?_
  refine sq_box rfl rfl rfl rfl (ev_tmp rfl) ?_
  intro b2
  refine sq_box rfl rfl rfl rfl (ev_tmp rfl) ?_
  intro b3
  refine sq_plain rfl rfl rfl (w_assign rfl ev_cb) ?_
  refine sq_nil ?_
  refine awp_seq ?_
  refine awp_seq ?_
  refine awp_region ?_
  refine sq_plain rfl rfl rfl (w_fldB rfl Try.underlying105 rfl Try.sizeOf9 (ev_tmp rfl)) ?_
  refine sq_plain rfl rfl rfl (w_loadB1 1 rfl (ev_tmp rfl) rfl Try.isAgg9 rfl) ?_
  refine sq_plain rfl rfl rfl (w_fldB rfl Try.underlying105 rfl Try.sizeOf9 (ev_tmp rfl)) ?_
  refine sq_plain rfl rfl rfl (w_loadB1 0 rfl (ev_tmp rfl) rfl Try.isAgg9 rfl) ?_
  refine sq_plain rfl rfl rfl (w_sneq rfl (ev_tmp rfl) (ev_tmp rfl)) ?_
  refine sq_nil ?_
  refine awp_cond (ev_tmp rfl) ?_ ?_
  · intro h9
    refine awp_seq ?_
    refine awp_region ?_
    refine sq_plain rfl rfl rfl (w_assign rfl ev_cb) ?_
    refine sq_nil ?_
    refine awp_ret ?_
    exact retR rfl (rv_tmp' rfl (by exact congrArg AV.bool (by cases a; cases b; simp_all)))
  · intro h9
    refine awp_skip ?_
    refine awp_seq ?_
    refine awp_seq ?_
    refine awp_region ?_
    refine sq_plain rfl rfl rfl (w_fldB rfl Try.underlying105 rfl Try.sizeOf9 (ev_tmp rfl)) ?_
    refine sq_plain rfl rfl rfl (w_loadB1 1 rfl (ev_tmp rfl) rfl Try.isAgg9 rfl) ?_
    refine sq_plain rfl rfl rfl (w_fldB rfl Try.underlying105 rfl Try.sizeOf9 (ev_tmp rfl)) ?_
    refine sq_plain rfl rfl rfl (w_loadB1 0 rfl (ev_tmp rfl) rfl Try.isAgg9 rfl) ?_
    refine sq_plain rfl rfl rfl (w_sneq rfl (ev_tmp rfl) (ev_tmp rfl)) ?_
    refine sq_nil ?_
    refine awp_cond (ev_tmp rfl) ?_ ?_
    · intro h14
      refine awp_seq ?_
      refine awp_region ?_
      refine sq_plain rfl rfl rfl (w_assign rfl ev_cb) ?_
      refine sq_nil ?_
      refine awp_ret ?_
      exact retR rfl (rv_tmp' rfl (by exact congrArg AV.bool (by cases a; cases b; simp_all)))
    · intro h14
      refine awp_skip ?_
      refine awp_seq ?_
      refine awp_seq ?_
      refine awp_region ?_
      refine sq_plain rfl rfl rfl (w_fldB rfl Try.underlying105 rfl Try.sizeOf4 (ev_tmp rfl)) ?_
      refine sq_plain rfl rfl rfl (w_loadB1 1 rfl (ev_tmp rfl) rfl Try.isAgg4 rfl) ?_
      refine sq_plain rfl rfl rfl (w_fldB rfl Try.underlying105 rfl Try.sizeOf4 (ev_tmp rfl)) ?_
      refine sq_plain rfl rfl rfl (w_loadB1 0 rfl (ev_tmp rfl) rfl Try.isAgg4 rfl) ?_
      refine sq_plain rfl rfl rfl (w_bneq rfl Try.underlying4 (ev_tmp rfl) (ev_tmp rfl)) ?_
      refine sq_nil ?_
      refine awp_cond (ev_tmp rfl) ?_ ?_
      · intro h19
        refine awp_seq ?_
        refine awp_region ?_
        refine sq_plain rfl rfl rfl (w_assign rfl ev_cb) ?_
        refine sq_nil ?_
        refine awp_ret ?_
        exact retR rfl (rv_tmp' rfl (by exact congrArg AV.bool (by cases a; cases b; simp_all)))
      · intro h19
        refine awp_skip ?_
        refine awp_seq ?_
        refine awp_region ?_
        refine sq_plain rfl rfl rfl (w_assign rfl ev_cb) ?_
        refine sq_nil ?_
        refine awp_ret ?_
        exact retR rfl (rv_tmp' rfl (by exact congrArg AV.bool (by cases a; cases b; simp_all)))
theorem szStringS_spec (l : List Str) (left : Int) (hok : (∀ x ∈ l, x.length ≤ 9223372036854775807)) (h0 : 0 ≤ left) (h1 : left ≤ 1048576) : FSpec Try.prog 51 [strs l, AV.int left] (AV.int (szR (sizeL (fun x => x.length) l) left)) := by
  refine spec_of_awp Try.func51 rfl Try.ntmps51 rfl ?_
  refine awp_len (t := 0) rfl fun hl => ?_
  try simp only [List.length_map] at hl
  refine awp_seq ?_
  refine awp_region ?_
  refine sq_plain rfl rfl rfl (w_assign rfl ev_ci) ?_
  refine sq_nil ?_
  refine awp_seq ?_
  refine awp_region ?_
  refine sq_plain rfl rfl rfl (w_move rfl (ev_tmp rfl)) ?_
  refine sq_plain rfl rfl rfl (w_move rfl (ev_tmp rfl)) ?_
  refine sq_plain rfl rfl rfl (w_llen rfl Try.underlying39 (ev_tmp rfl)) ?_
  refine sq_plain rfl rfl rfl (w_subi rfl (ev_tmp rfl) (ev_tmp rfl) (by first | omega | ((try simp only [List.length_map, szR] at *); omega) | (have hc2 := hc; simp only [Bool.and_eq_true, Bool.or_eq_true, Bool.or_eq_false_iff, Bool.and_eq_false_iff, Bool.not_eq_true', Bool.not_eq_false', decide_eq_true_eq, decide_eq_false_iff_not, beq_iff_eq, bne_iff_ne] at hc2; omega))) ?_
  refine sq_plain rfl rfl rfl (w_assign rfl (ev_tmp rfl)) ?_
  refine sq_nil ?_
  refine awp_seq ?_
  refine awp_seq ?_
  refine awp_region ?_
  refine sq_plain rfl rfl rfl (w_move rfl (ev_tmp rfl)) ?_
  refine sq_plain rfl rfl rfl (w_lss rfl (ev_tmp rfl) ev_ci) ?_
  refine sq_nil ?_
  refine awp_cond (ev_tmp rfl) ?_ ?_
  · intro h11
    have k11 := of_decide_eq_true h11; try simp only [List.length_map] at k11
    refine awp_seq ?_
    refine awp_region ?_
    refine sq_plain rfl rfl rfl (w_assign rfl ev_ci) ?_
    refine sq_nil ?_
    refine awp_ret ?_
    exact retR rfl (rv_tmp' rfl (by exact congrArg AV.int (by simp only [szR, sizeL, List.length_map, decide_eq_true_eq, decide_eq_false_iff_not] at *; omega)))
  · intro h11
    have k11 := of_decide_eq_false h11; try simp only [List.length_map] at k11
    refine awp_skip ?_
    refine awp_seq ?_
    refine awp_seq ?_
    refine awp_region ?_
    refine sq_plain rfl rfl rfl (w_assign rfl ev_ci) ?_
    refine sq_nil ?_
    refine awp_block ?_
    refine awp_loop_i2 [(0, _)] _ (fun (i : Nat) (b : Int) => i ≤ l.length ∧ b = left - l.length - (((l.take i).map (fun x => x.length)).sum : Nat) ∧ 0 ≤ b) (fun (i : Nat) (b : Int) => []) (fun (i : Nat) (b : Int) => [(1, AV.int b), (5, AV.int i)]) (fun (i : Nat) (b : Int) => l.length - i) (0) (left - ((l.map fun x => [AV.str x]).length : Int)) ?_ (le_env ⟨rfl, rfl, rfl, trivial⟩) ?_
    · exact ⟨Nat.zero_le _, by simp, by simp only [List.length_map]; omega⟩
    intro i b hinv
    refine awp_seq ?_
    refine awp_seq ?_
    refine awp_region ?_
    refine sq_plain rfl rfl rfl (w_move rfl (ev_tmp rfl)) ?_
    refine sq_plain rfl rfl rfl (w_move rfl (ev_tmp rfl)) ?_
    refine sq_plain rfl rfl rfl (w_llen rfl Try.underlying39 (ev_tmp rfl)) ?_
    refine sq_plain rfl rfl rfl (w_lss rfl (ev_tmp rfl) (ev_tmp rfl)) ?_
    refine sq_nil ?_
    refine awp_cond (ev_tmp rfl) ?_ ?_
    · intro h15
      have k15 := of_decide_eq_true h15; try simp only [List.length_map] at k15
      have hlt : i < l.length := by omega
      obtain ⟨x, hx⟩ := get_some hlt
      have e2 := sum_le (fun x => x.length) l i x hx
      have hokx := hok x (List.mem_of_getElem? hx)
      refine awp_skip ?_
      refine awp_seq ?_
      refine awp_block ?_
      refine awp_seq ?_
      refine awp_region ?_
      refine sq_plain rfl rfl rfl (w_move rfl (ev_tmp rfl)) ?_
      refine sq_plain rfl rfl rfl (w_move rfl (ev_tmp rfl)) ?_
      refine sq_plain rfl rfl rfl (w_move rfl (ev_tmp rfl)) ?_
      refine sq_plain rfl rfl rfl (w_idx rfl Try.underlying39 Try.sizeOf9 (ev_tmp rfl) (ev_tmp rfl) (by omega) (by simp only [Int.toNat_natCast, List.getElem?_map, hx, Option.map_some]; try rfl)) ?_
      refine sq_plain rfl rfl rfl (w_loadE1 rfl (ev_tmp rfl) Try.isAgg9 rfl) ?_
      refine sq_plain rfl rfl rfl (w_slen rfl Try.underlying9 (ev_tmp rfl)) ?_
      refine sq_plain rfl rfl rfl (w_subi rfl (ev_tmp rfl) (ev_tmp rfl) (by first | omega | ((try simp only [List.length_map, szR] at *); omega) | (have hc2 := hc; simp only [Bool.and_eq_true, Bool.or_eq_true, Bool.or_eq_false_iff, Bool.and_eq_false_iff, Bool.not_eq_true', Bool.not_eq_false', decide_eq_true_eq, decide_eq_false_iff_not, beq_iff_eq, bne_iff_ne] at hc2; omega))) ?_
      refine sq_plain rfl rfl rfl (w_assign rfl (ev_tmp rfl)) ?_
      refine sq_nil ?_
      refine awp_seq ?_
      refine awp_region ?_
      refine sq_plain rfl rfl rfl (w_move rfl (ev_tmp rfl)) ?_
      refine sq_plain rfl rfl rfl (w_lss rfl (ev_tmp rfl) ev_ci) ?_
      refine sq_nil ?_
      refine awp_cond (ev_tmp rfl) ?_ ?_
      · intro h26
        have k26 := of_decide_eq_true h26; try simp only [List.length_map] at k26
        refine awp_seq ?_
        refine awp_region ?_
        refine sq_plain rfl rfl rfl (w_assign rfl ev_ci) ?_
        refine sq_nil ?_
        refine awp_ret ?_
        exact retR rfl (rv_tmp' rfl (by exact congrArg AV.int (by simp only [szR, sizeL, List.length_map, decide_eq_true_eq, decide_eq_false_iff_not] at *; omega)))
      · intro h26
        have k26 := of_decide_eq_false h26; try simp only [List.length_map] at k26
        refine awp_skip ?_
        refine awp_region ?_
        refine sq_plain rfl rfl rfl (w_move rfl (ev_tmp rfl)) ?_
        refine sq_plain rfl rfl rfl (w_addi rfl (ev_tmp rfl) ev_ci (by first | omega | ((try simp only [List.length_map, szR] at *); omega) | (have hc2 := hc; simp only [Bool.and_eq_true, Bool.or_eq_true, Bool.or_eq_false_iff, Bool.and_eq_false_iff, Bool.not_eq_true', Bool.not_eq_false', decide_eq_true_eq, decide_eq_false_iff_not, beq_iff_eq, bne_iff_ne] at hc2; omega))) ?_
        refine sq_plain rfl rfl rfl (w_assign rfl (ev_tmp rfl)) ?_
        refine sq_nil ?_
        refine round_end2 i b (i + 1) ((b - (x.length : Int))) ?_ ?_ (le_env ⟨rfl, rfl, rfl, trivial⟩)
        · exact ⟨by omega, by have e1 := sum_take (fun x => x.length) l i x hx; simp only [szR, decide_eq_false_iff_not] at *; omega, by omega⟩
        · omega
    · intro h15
      have k15 := of_decide_eq_false h15; try simp only [List.length_map] at k15
      have hge : l.length ≤ i := by omega
      have e3 : ((l.take i).map (fun x => x.length)).sum = (l.map (fun x => x.length)).sum := by rw [List.take_of_length_le hge]
      refine awp_exit ?_
      refine awp_seq ?_
      refine awp_region ?_
      refine sq_plain rfl rfl rfl (w_move rfl (ev_tmp rfl)) ?_
      refine sq_plain rfl rfl rfl (w_assign rfl (ev_tmp rfl)) ?_
      refine sq_nil ?_
      refine awp_ret ?_
      exact retR rfl (rv_tmp' rfl (by exact congrArg AV.int (by simp only [szR, sizeL, List.length_map, decide_eq_true_eq, decide_eq_false_iff_not] at *; omega)))
theorem toStringS_spec (l : List Str) (hs : sizeL (fun x => x.length) l ≤ 1048576) : FSpec Try.prog 56 [strs l] (strs l) := by
  have hsl : l.length ≤ 1048576 := Nat.le_trans sizeL_len hs
  refine spec_of_awp Try.func56 rfl Try.ntmps56 rfl ?_
  refine awp_seq ?_
  refine awp_region ?_
  refine sq_plain rfl rfl rfl (w_assign rfl (ev_cnil (sz := 1))) ?_
  refine sq_nil ?_
  refine awp_seq ?_
  refine awp_region ?_
  refine sq_plain rfl rfl rfl (w_move rfl (ev_tmp rfl)) ?_
  refine sq_plain rfl rfl rfl (w_llen rfl Try.underlying39 (ev_tmp rfl)) ?_
  refine sq_make (by' := 16) rfl rfl rfl rfl Try.underlying39 Try.type9 rfl rfl rfl rfl rfl rfl (ev_tmp rfl) (ev_tmp rfl) (by simp only [List.length_map]; omega) (by simp only [List.length_map]; omega) ?_
  intro v7
  refine sq_plain rfl rfl rfl (w_assign rfl (ev_tmp rfl)) ?_
  refine sq_nil ?_
  refine awp_seq ?_
  refine awp_seq ?_
  refine awp_region ?_
  refine sq_plain rfl rfl rfl (w_assign rfl ev_ci) ?_
  refine sq_nil ?_
  refine awp_block ?_
  refine awp_loop_i [(0, _), (2, _), (3, _)] _ (fun (i : Nat) => i ≤ l.length) (fun (i : Nat) => [.arr v7 9 1 ((l.take i).map (fun x => [AV.str x]) ++ List.replicate (l.length - i) [AV.str []])]) (fun (i : Nat) => [(4, AV.int i)]) (fun (i : Nat) => l.length - i) (0) ?_ (le_eq (by simp only [List.length_map]; rfl) ⟨rfl, rfl, rfl, rfl, trivial⟩) ?_
  · exact Nat.zero_le _
  intro i hinv
  refine awp_seq ?_
  refine awp_seq ?_
  refine awp_region ?_
  refine sq_plain rfl rfl rfl (w_move rfl (ev_tmp rfl)) ?_
  refine sq_plain rfl rfl rfl (w_move rfl (ev_tmp rfl)) ?_
  refine sq_plain rfl rfl rfl (w_llen rfl Try.underlying39 (ev_tmp rfl)) ?_
  refine sq_plain rfl rfl rfl (w_lss rfl (ev_tmp rfl) (ev_tmp rfl)) ?_
  refine sq_nil ?_
  refine awp_cond (ev_tmp rfl) ?_ ?_
  · intro h11
    have k11 := of_decide_eq_true h11; try simp only [List.length_map] at k11
    have hlt : i < l.length := by omega
    obtain ⟨x, hx⟩ := get_some hlt
    refine awp_skip ?_
    refine awp_seq ?_
    refine awp_block ?_
    refine awp_region ?_
    refine sq_plain rfl rfl rfl (w_move rfl (ev_tmp rfl)) ?_
    refine sq_plain rfl rfl rfl (w_move rfl (ev_tmp rfl)) ?_
    refine sq_plain rfl rfl rfl (w_move rfl (ev_tmp rfl)) ?_
    refine sq_plain rfl rfl rfl (w_move rfl (ev_tmp rfl)) ?_
    refine sq_plain rfl rfl rfl (w_idx rfl Try.underlying39 Try.sizeOf9 (ev_tmp rfl) (ev_tmp rfl) (by omega) (by simp only [Int.toNat_natCast, List.getElem?_map, hx, Option.map_some]; try rfl)) ?_
    refine sq_plain rfl rfl rfl (w_loadE1 rfl (ev_tmp rfl) Try.isAgg9 rfl) ?_
    refine sq_plain rfl rfl rfl (w_aidx 0 rfl Try.underlying39 Try.sizeOf9 (ev_tmp rfl) rfl (ev_tmp rfl) (by omega) (by rw [fill_len hinv]; omega)) ?_
    refine sq_storeA 0 rfl rfl rfl (ev_tmp rfl) (ev_tmp rfl) (as_str _) rfl Try.sizeOf9 rfl (by rw [fill_len hinv]; omega) ?_
    refine sq_nil ?_
    refine awp_region ?_
    refine sq_plain rfl rfl rfl (w_move rfl (ev_tmp rfl)) ?_
    refine sq_plain rfl rfl rfl (w_addi rfl (ev_tmp rfl) ev_ci (by first | omega | ((try simp only [List.length_map, szR] at *); omega) | (have hc2 := hc; simp only [Bool.and_eq_true, Bool.or_eq_true, Bool.or_eq_false_iff, Bool.and_eq_false_iff, Bool.not_eq_true', Bool.not_eq_false', decide_eq_true_eq, decide_eq_false_iff_not, beq_iff_eq, bne_iff_ne] at hc2; omega))) ?_
    refine sq_plain rfl rfl rfl (w_assign rfl (ev_tmp rfl)) ?_
    refine sq_nil ?_
    refine round_end i (i + 1) ?_ ?_ (le_eq (by exact congrArg (fun z => [Own.arr v7 9 1 z]) (fill_step hx)) ⟨rfl, rfl, rfl, rfl, trivial⟩)
    · omega
    · omega
  · intro h11
    have k11 := of_decide_eq_false h11; try simp only [List.length_map] at k11
    have hge : l.length ≤ i := by omega
    rw [fill_done hge]
    refine awp_exit ?_
    refine awp_seq ?_
    refine awp_region ?_
    refine sq_plain rfl rfl rfl (w_move rfl (ev_tmp rfl)) ?_
    refine sq_plain rfl rfl rfl (w_assign rfl (ev_tmp rfl)) ?_
    refine sq_nil ?_
    refine awp_ret ?_
    refine ret_seal 0 2 rfl rfl ?_
    exact retR rfl (rv_tmp' rfl (by first | rfl | (refine congrArg AV.bool ?_; simp_all; done)))
theorem eqStringS_spec (a b : List Str) : FSpec Try.prog 62 [strs a, strs b] (AV.bool (decide (a = b))) := by
  refine spec_of_awp Try.func62 rfl Try.ntmps62 rfl ?_
  refine awp_len (t := 0) rfl fun hl => ?_
  try simp only [List.length_map] at hl
  refine awp_seq ?_
  refine awp_region ?_
  refine sq_plain rfl rfl rfl (w_assign rfl ev_cb) ?_
  refine sq_nil ?_
  refine awp_seq ?_
  refine awp_seq ?_
  refine awp_region ?_
  refine sq_plain rfl rfl rfl (w_move rfl (ev_tmp rfl)) ?_
  refine sq_plain rfl rfl rfl (w_llen rfl Try.underlying39 (ev_tmp rfl)) ?_
  refine sq_plain rfl rfl rfl (w_move rfl (ev_tmp rfl)) ?_
  refine sq_plain rfl rfl rfl (w_llen rfl Try.underlying39 (ev_tmp rfl)) ?_
  refine sq_plain rfl rfl rfl (w_neq rfl (ev_tmp rfl) (ev_tmp rfl)) ?_
  refine sq_nil ?_
  refine awp_cond (ev_tmp rfl) ?_ ?_
  · intro h10
    have k10 := ne_of_bne h10; try simp only [List.length_map] at k10
    have hab : a ≠ b := by intro hc; subst hc; exact k10 rfl
    refine awp_seq ?_
    refine awp_region ?_
    refine sq_plain rfl rfl rfl (w_assign rfl ev_cb) ?_
    refine sq_nil ?_
    refine awp_ret ?_
    exact retR rfl (rv_tmp' rfl (by exact congrArg AV.bool (by simp [hab])))
  · intro h10
    have k10 := eq_of_bne_false h10; try simp only [List.length_map] at k10
    have heq : a.length = b.length := by omega
    refine awp_skip ?_
    refine awp_seq ?_
    refine awp_seq ?_
    refine awp_region ?_
    refine sq_plain rfl rfl rfl (w_assign rfl ev_ci) ?_
    refine sq_nil ?_
    refine awp_block ?_
    refine awp_loop_i [(0, _), (1, _)] _ (fun (i : Nat) => i ≤ a.length ∧ a.take i = b.take i) (fun (i : Nat) => []) (fun (i : Nat) => [(5, AV.int i)]) (fun (i : Nat) => a.length - i) (0) ?_ (le_env ⟨rfl, rfl, rfl, trivial⟩) ?_
    · exact ⟨Nat.zero_le _, rfl⟩
    intro i hinv
    refine awp_seq ?_
    refine awp_seq ?_
    refine awp_region ?_
    refine sq_plain rfl rfl rfl (w_move rfl (ev_tmp rfl)) ?_
    refine sq_plain rfl rfl rfl (w_move rfl (ev_tmp rfl)) ?_
    refine sq_plain rfl rfl rfl (w_llen rfl Try.underlying39 (ev_tmp rfl)) ?_
    refine sq_plain rfl rfl rfl (w_lss rfl (ev_tmp rfl) (ev_tmp rfl)) ?_
    refine sq_nil ?_
    refine awp_cond (ev_tmp rfl) ?_ ?_
    · intro h14
      have k14 := of_decide_eq_true h14; try simp only [List.length_map] at k14
      have hlt : i < a.length := by omega
      obtain ⟨x, hx⟩ := get_some hlt
      obtain ⟨y, hy⟩ := get_some (show i < b.length by omega)
      refine awp_skip ?_
      refine awp_seq ?_
      refine awp_block ?_
      refine awp_seq ?_
      refine awp_region_any (by kernel_rfl) (by kernel_rfl) rfl ?_
      refine ch_plain rfl rfl (w_move rfl (ev_tmp rfl)) ?_
      refine ch_plain rfl rfl (w_move rfl (ev_tmp rfl)) ?_
      refine ch_plain rfl rfl (w_idx rfl Try.underlying39 Try.sizeOf9 (ev_tmp rfl) (ev_tmp rfl) (by omega) (by simp only [Int.toNat_natCast, List.getElem?_map, hx, Option.map_some]; try rfl)) ?_
      refine ch_plain rfl rfl (w_loadE1 rfl (ev_tmp rfl) Try.isAgg9 rfl) ?_
      refine ch_plain rfl rfl (w_move rfl (ev_tmp rfl)) ?_
      refine ch_plain rfl rfl (w_move rfl (ev_tmp rfl)) ?_
      refine ch_plain rfl rfl (w_idx rfl Try.underlying39 Try.sizeOf9 (ev_tmp rfl) (ev_tmp rfl) (by omega) (by simp only [Int.toNat_natCast, List.getElem?_map, hy, Option.map_some]; try rfl)) ?_
      refine ch_plain rfl rfl (w_loadE1 rfl (ev_tmp rfl) Try.isAgg9 rfl) ?_
      refine ch_plain rfl rfl (w_sneq rfl (ev_tmp rfl) (ev_tmp rfl)) ?_
      refine ch_nil ?_
      refine awp_cond (ev_tmp rfl) ?_ ?_
      · intro h25
        have hab : a ≠ b := by intro hc; subst hc; rw [hx] at hy; injection hy with hy; subst hy; simp at h25
        refine awp_seq ?_
        refine awp_region ?_
        refine sq_plain rfl rfl rfl (w_assign rfl ev_cb) ?_
        refine sq_nil ?_
        refine awp_ret ?_
        exact retR rfl (rv_tmp' rfl (by exact congrArg AV.bool (by simp [hab])))
      · intro h25
        refine awp_skip ?_
        refine awp_region ?_
        refine sq_plain rfl rfl rfl (w_move rfl (ev_tmp rfl)) ?_
        refine sq_plain rfl rfl rfl (w_addi rfl (ev_tmp rfl) ev_ci (by first | omega | ((try simp only [List.length_map, szR] at *); omega) | (have hc2 := hc; simp only [Bool.and_eq_true, Bool.or_eq_true, Bool.or_eq_false_iff, Bool.and_eq_false_iff, Bool.not_eq_true', Bool.not_eq_false', decide_eq_true_eq, decide_eq_false_iff_not, beq_iff_eq, bne_iff_ne] at hc2; omega))) ?_
        refine sq_plain rfl rfl rfl (w_assign rfl (ev_tmp rfl)) ?_
        refine sq_nil ?_
        refine round_end i (i + 1) ?_ ?_ (le_env ⟨rfl, rfl, rfl, trivial⟩)
        · exact ⟨by omega, take_eq_succ hinv.2 hx (by rw [hy]; congr 1; simp_all)⟩
        · omega
    · intro h14
      have k14 := of_decide_eq_false h14; try simp only [List.length_map] at k14
      have hge : a.length ≤ i := by omega
      have hab : a = b := take_eq_of heq hinv.2 hge
      refine awp_exit ?_
      refine awp_seq ?_
      refine awp_region ?_
      refine sq_plain rfl rfl rfl (w_assign rfl ev_cb) ?_
      refine sq_nil ?_
      refine awp_ret ?_
      exact retR rfl (rv_tmp' rfl (by exact congrArg AV.bool (by simp [hab])))
theorem szWriteS_spec (l : List TWrite) (left : Int) (hok : (∀ x ∈ l, x.ok)) (h0 : 0 ≤ left) (h1 : left ≤ 1048576) : FSpec Try.prog 69 [AV.list 3 (l.map TWrite.cs), AV.int left] (AV.int (szR (sizeL TWrite.size l) left)) := by
  refine spec_of_awp Try.func69 rfl Try.ntmps69 rfl ?_
  refine awp_len (t := 0) rfl fun hl => ?_
  try simp only [List.length_map] at hl
  refine awp_seq ?_
  refine awp_region ?_
  refine sq_plain rfl rfl rfl (w_assign rfl ev_ci) ?_
  refine sq_nil ?_
  refine awp_seq ?_
  refine awp_region ?_
  refine sq_plain rfl rfl rfl (w_move rfl (ev_tmp rfl)) ?_
  refine sq_plain rfl rfl rfl (w_move rfl (ev_tmp rfl)) ?_
  refine sq_plain rfl rfl rfl (w_llen rfl Try.underlying59 (ev_tmp rfl)) ?_
  refine sq_plain rfl rfl rfl (w_subi rfl (ev_tmp rfl) (ev_tmp rfl) (by first | omega | ((try simp only [List.length_map, szR] at *); omega) | (have hc2 := hc; simp only [Bool.and_eq_true, Bool.or_eq_true, Bool.or_eq_false_iff, Bool.and_eq_false_iff, Bool.not_eq_true', Bool.not_eq_false', decide_eq_true_eq, decide_eq_false_iff_not, beq_iff_eq, bne_iff_ne] at hc2; omega))) ?_
  refine sq_plain rfl rfl rfl (w_assign rfl (ev_tmp rfl)) ?_
  refine sq_nil ?_
  refine awp_seq ?_
  refine awp_seq ?_
  refine awp_region ?_
  refine sq_plain rfl rfl rfl (w_move rfl (ev_tmp rfl)) ?_
  refine sq_plain rfl rfl rfl (w_lss rfl (ev_tmp rfl) ev_ci) ?_
  refine sq_nil ?_
  refine awp_cond (ev_tmp rfl) ?_ ?_
  · intro h11
    have k11 := of_decide_eq_true h11; try simp only [List.length_map] at k11
    refine awp_seq ?_
    refine awp_region ?_
    refine sq_plain rfl rfl rfl (w_assign rfl ev_ci) ?_
    refine sq_nil ?_
    refine awp_ret ?_
    exact retR rfl (rv_tmp' rfl (by exact congrArg AV.int (by simp only [szR, sizeL, List.length_map, decide_eq_true_eq, decide_eq_false_iff_not] at *; omega)))
  · intro h11
    have k11 := of_decide_eq_false h11; try simp only [List.length_map] at k11
    refine awp_skip ?_
    refine awp_seq ?_
    refine awp_seq ?_
    refine awp_region ?_
    refine sq_plain rfl rfl rfl (w_assign rfl ev_ci) ?_
    refine sq_nil ?_
    refine awp_block ?_
    refine awp_loop_i2 [(0, _)] _ (fun (i : Nat) (b : Int) => i ≤ l.length ∧ b = left - l.length - (((l.take i).map TWrite.size).sum : Nat) ∧ 0 ≤ b) (fun (i : Nat) (b : Int) => []) (fun (i : Nat) (b : Int) => [(1, AV.int b), (5, AV.int i)]) (fun (i : Nat) (b : Int) => l.length - i) (0) (left - ((l.map fun x => TWrite.cs x).length : Int)) ?_ (le_env ⟨rfl, rfl, rfl, trivial⟩) ?_
    · exact ⟨Nat.zero_le _, by simp, by simp only [List.length_map]; omega⟩
    intro i b hinv
    refine awp_seq ?_
    refine awp_seq ?_
    refine awp_region ?_
    refine sq_plain rfl rfl rfl (w_move rfl (ev_tmp rfl)) ?_
    refine sq_plain rfl rfl rfl (w_move rfl (ev_tmp rfl)) ?_
    refine sq_plain rfl rfl rfl (w_llen rfl Try.underlying59 (ev_tmp rfl)) ?_
    refine sq_plain rfl rfl rfl (w_lss rfl (ev_tmp rfl) (ev_tmp rfl)) ?_
    refine sq_nil ?_
    refine awp_cond (ev_tmp rfl) ?_ ?_
    · intro h15
      have k15 := of_decide_eq_true h15; try simp only [List.length_map] at k15
      have hlt : i < l.length := by omega
      obtain ⟨x, hx⟩ := get_some hlt
      have e2 := sum_le TWrite.size l i x hx
      have hokx := hok x (List.mem_of_getElem? hx)
      refine awp_skip ?_
      refine awp_seq ?_
      refine awp_block ?_
      refine awp_seq ?_
      refine awp_region ?_
      refine sq_plain rfl rfl rfl (w_move rfl (ev_tmp rfl)) ?_
      refine sq_plain rfl rfl rfl (w_move rfl (ev_tmp rfl)) ?_
      refine sq_plain rfl rfl rfl (w_idx rfl Try.underlying59 Try.sizeOf104 (ev_tmp rfl) (ev_tmp rfl) (by omega) (by simp only [Int.toNat_natCast, List.getElem?_map, hx, Option.map_some]; try rfl)) ?_
      refine sq_plain rfl rfl rfl (w_loadE rfl (ev_tmp rfl) Try.isAgg104 Try.sizeOf104) ?_
      refine sq_plain rfl rfl rfl (w_move rfl (ev_tmp rfl)) ?_
      refine sq_plain rfl rfl rfl (w_call rfl Try.call84 rfl (szWrite_spec _ _ (by assumption) (by first | omega | ((try simp only [List.length_map, szR] at *); omega) | (have hc2 := hc; simp only [Bool.and_eq_true, Bool.or_eq_true, Bool.or_eq_false_iff, Bool.and_eq_false_iff, Bool.not_eq_true', Bool.not_eq_false', decide_eq_true_eq, decide_eq_false_iff_not, beq_iff_eq, bne_iff_ne] at hc2; omega)) (by first | omega | ((try simp only [List.length_map, szR] at *); omega) | (have hc2 := hc; simp only [Bool.and_eq_true, Bool.or_eq_true, Bool.or_eq_false_iff, Bool.and_eq_false_iff, Bool.not_eq_true', Bool.not_eq_false', decide_eq_true_eq, decide_eq_false_iff_not, beq_iff_eq, bne_iff_ne] at hc2; omega))) (evl_cons (ev_tmp rfl) (evl_cons (ev_tmp rfl) evl_nil))) ?_
      refine sq_plain rfl rfl rfl (w_assign rfl (ev_tmp rfl)) ?_
      refine sq_nil ?_
      refine awp_seq ?_
      refine awp_region ?_
      refine sq_plain rfl rfl rfl (w_move rfl (ev_tmp rfl)) ?_
      refine sq_plain rfl rfl rfl (w_lss rfl (ev_tmp rfl) ev_ci) ?_
      refine sq_nil ?_
      refine awp_cond (ev_tmp rfl) ?_ ?_
      · intro h25
        have k25 := of_decide_eq_true h25; try simp only [List.length_map] at k25
        refine awp_seq ?_
        refine awp_region ?_
        refine sq_plain rfl rfl rfl (w_assign rfl ev_ci) ?_
        refine sq_nil ?_
        refine awp_ret ?_
        exact retR rfl (rv_tmp' rfl (by exact congrArg AV.int (by simp only [szR, sizeL, List.length_map, decide_eq_true_eq, decide_eq_false_iff_not] at *; omega)))
      · intro h25
        have k25 := of_decide_eq_false h25; try simp only [List.length_map] at k25
        refine awp_skip ?_
        refine awp_region ?_
        refine sq_plain rfl rfl rfl (w_move rfl (ev_tmp rfl)) ?_
        refine sq_plain rfl rfl rfl (w_addi rfl (ev_tmp rfl) ev_ci (by first | omega | ((try simp only [List.length_map, szR] at *); omega) | (have hc2 := hc; simp only [Bool.and_eq_true, Bool.or_eq_true, Bool.or_eq_false_iff, Bool.and_eq_false_iff, Bool.not_eq_true', Bool.not_eq_false', decide_eq_true_eq, decide_eq_false_iff_not, beq_iff_eq, bne_iff_ne] at hc2; omega))) ?_
        refine sq_plain rfl rfl rfl (w_assign rfl (ev_tmp rfl)) ?_
        refine sq_nil ?_
        refine round_end2 i b (i + 1) ((szR (TWrite.size x) b)) ?_ ?_ (le_env ⟨rfl, rfl, rfl, trivial⟩)
        · exact ⟨by omega, by have e1 := sum_take TWrite.size l i x hx; simp only [szR, decide_eq_false_iff_not] at *; omega, by omega⟩
        · omega
    · intro h15
      have k15 := of_decide_eq_false h15; try simp only [List.length_map] at k15
      have hge : l.length ≤ i := by omega
      have e3 : ((l.take i).map TWrite.size).sum = (l.map TWrite.size).sum := by rw [List.take_of_length_le hge]
      refine awp_exit ?_
      refine awp_seq ?_
      refine awp_region ?_
      refine sq_plain rfl rfl rfl (w_move rfl (ev_tmp rfl)) ?_
      refine sq_plain rfl rfl rfl (w_assign rfl (ev_tmp rfl)) ?_
      refine sq_nil ?_
      refine awp_ret ?_
      exact retR rfl (rv_tmp' rfl (by exact congrArg AV.int (by simp only [szR, sizeL, List.length_map, decide_eq_true_eq, decide_eq_false_iff_not] at *; omega)))
theorem toWriteS_spec (l : List TWrite) (hs : sizeL TWrite.size l ≤ 1048576) : FSpec Try.prog 71 [AV.list 3 (l.map TWrite.cs)] (AV.list 3 (l.map TWrite.cs)) := by
  have hsl : l.length ≤ 1048576 := Nat.le_trans sizeL_len hs
  refine spec_of_awp Try.func71 rfl Try.ntmps71 rfl ?_
  refine awp_seq ?_
  refine awp_region ?_
  refine sq_plain rfl rfl rfl (w_assign rfl (ev_cnil (sz := 3))) ?_
  refine sq_nil ?_
  refine awp_seq ?_
  refine awp_region ?_
  refine sq_plain rfl rfl rfl (w_move rfl (ev_tmp rfl)) ?_
  refine sq_plain rfl rfl rfl (w_llen rfl Try.underlying59 (ev_tmp rfl)) ?_
  refine sq_make (by' := 40) rfl rfl rfl rfl Try.underlying64 Try.type105 rfl rfl rfl rfl rfl rfl (ev_tmp rfl) (ev_tmp rfl) (by simp only [List.length_map]; omega) (by simp only [List.length_map]; omega) ?_
  intro v7
  refine sq_plain rfl rfl rfl (w_assign rfl (ev_tmp rfl)) ?_
  refine sq_nil ?_
  refine awp_seq ?_
  refine awp_seq ?_
  refine awp_region ?_
  refine sq_plain rfl rfl rfl (w_assign rfl ev_ci) ?_
  refine sq_nil ?_
  refine awp_block ?_
  refine awp_loop_i [(0, _), (2, _), (3, _)] _ (fun (i : Nat) => i ≤ l.length) (fun (i : Nat) => [.arr v7 105 3 ((l.take i).map TWrite.cs ++ List.replicate (l.length - i) [AV.str [], AV.str [], AV.bool false])]) (fun (i : Nat) => [(4, AV.int i)]) (fun (i : Nat) => l.length - i) (0) ?_ (le_eq (by simp only [List.length_map]; rfl) ⟨rfl, rfl, rfl, rfl, trivial⟩) ?_
  · exact Nat.zero_le _
  intro i hinv
  refine awp_seq ?_
  refine awp_seq ?_
  refine awp_region ?_
  refine sq_plain rfl rfl rfl (w_move rfl (ev_tmp rfl)) ?_
  refine sq_plain rfl rfl rfl (w_move rfl (ev_tmp rfl)) ?_
  refine sq_plain rfl rfl rfl (w_llen rfl Try.underlying59 (ev_tmp rfl)) ?_
  refine sq_plain rfl rfl rfl (w_lss rfl (ev_tmp rfl) (ev_tmp rfl)) ?_
  refine sq_nil ?_
  refine awp_cond (ev_tmp rfl) ?_ ?_
  · intro h11
    have k11 := of_decide_eq_true h11; try simp only [List.length_map] at k11
    have hlt : i < l.length := by omega
    obtain ⟨x, hx⟩ := get_some hlt
    have hsx : TWrite.size x ≤ 1048576 := Nat.le_trans (sizeL_get hx) hs
    refine awp_skip ?_
    refine awp_seq ?_
    refine awp_block ?_
    refine awp_region ?_
    refine sq_plain rfl rfl rfl (w_move rfl (ev_tmp rfl)) ?_
    refine sq_plain rfl rfl rfl (w_move rfl (ev_tmp rfl)) ?_
    refine sq_plain rfl rfl rfl (w_move rfl (ev_tmp rfl)) ?_
    refine sq_plain rfl rfl rfl (w_move rfl (ev_tmp rfl)) ?_
    refine sq_plain rfl rfl rfl (w_idx rfl Try.underlying59 Try.sizeOf104 (ev_tmp rfl) (ev_tmp rfl) (by omega) (by simp only [Int.toNat_natCast, List.getElem?_map, hx, Option.map_some]; try rfl)) ?_
    refine sq_plain rfl rfl rfl (w_loadE rfl (ev_tmp rfl) Try.isAgg104 Try.sizeOf104) ?_
    refine sq_plain rfl rfl rfl (w_call rfl Try.call86 rfl (toWrite_spec _ (by first | assumption | omega | (simp only [] at *; omega))) (evl_cons (ev_tmp rfl) evl_nil)) ?_
    refine sq_plain rfl rfl rfl (w_aidx 0 rfl Try.underlying64 Try.sizeOf105 (ev_tmp rfl) rfl (ev_tmp rfl) (by omega) (by rw [fill_len hinv]; omega)) ?_
    refine sq_storeA 0 rfl rfl rfl (ev_tmp rfl) (ev_tmp rfl) (as_agg _) rfl Try.sizeOf105 rfl (by rw [fill_len hinv]; omega) ?_
    refine sq_nil ?_
    refine awp_region ?_
    refine sq_plain rfl rfl rfl (w_move rfl (ev_tmp rfl)) ?_
    refine sq_plain rfl rfl rfl (w_addi rfl (ev_tmp rfl) ev_ci (by first | omega | ((try simp only [List.length_map, szR] at *); omega) | (have hc2 := hc; simp only [Bool.and_eq_true, Bool.or_eq_true, Bool.or_eq_false_iff, Bool.and_eq_false_iff, Bool.not_eq_true', Bool.not_eq_false', decide_eq_true_eq, decide_eq_false_iff_not, beq_iff_eq, bne_iff_ne] at hc2; omega))) ?_
    refine sq_plain rfl rfl rfl (w_assign rfl (ev_tmp rfl)) ?_
    refine sq_nil ?_
    refine round_end i (i + 1) ?_ ?_ (le_eq (by exact congrArg (fun z => [Own.arr v7 105 3 z]) (fill_step hx)) ⟨rfl, rfl, rfl, rfl, trivial⟩)
    · omega
    · omega
  · intro h11
    have k11 := of_decide_eq_false h11; try simp only [List.length_map] at k11
    have hge : l.length ≤ i := by omega
    rw [fill_done hge]
    refine awp_exit ?_
    refine awp_seq ?_
    refine awp_region ?_
    refine sq_plain rfl rfl rfl (w_move rfl (ev_tmp rfl)) ?_
    refine sq_plain rfl rfl rfl (w_assign rfl (ev_tmp rfl)) ?_
    refine sq_nil ?_
    refine awp_ret ?_
    refine ret_seal 0 2 rfl rfl ?_
    exact retR rfl (rv_tmp' rfl (by first | rfl | (refine congrArg AV.bool ?_; simp_all; done)))
theorem eqWriteS_spec (a b : List TWrite) : FSpec Try.prog 73 [AV.list 3 (a.map TWrite.cs), AV.list 3 (b.map TWrite.cs)] (AV.bool (decide (a = b))) := by
  refine spec_of_awp Try.func73 rfl Try.ntmps73 rfl ?_
  refine awp_len (t := 0) rfl fun hl => ?_
  try simp only [List.length_map] at hl
  refine awp_seq ?_
  refine awp_region ?_
  refine sq_plain rfl rfl rfl (w_assign rfl ev_cb) ?_
  refine sq_nil ?_
  refine awp_seq ?_
  refine awp_seq ?_
  refine awp_region ?_
  refine sq_plain rfl rfl rfl (w_move rfl (ev_tmp rfl)) ?_
  refine sq_plain rfl rfl rfl (w_llen rfl Try.underlying64 (ev_tmp rfl)) ?_
  refine sq_plain rfl rfl rfl (w_move rfl (ev_tmp rfl)) ?_
  refine sq_plain rfl rfl rfl (w_llen rfl Try.underlying64 (ev_tmp rfl)) ?_
  refine sq_plain rfl rfl rfl (w_neq rfl (ev_tmp rfl) (ev_tmp rfl)) ?_
  refine sq_nil ?_
  refine awp_cond (ev_tmp rfl) ?_ ?_
  · intro h10
    have k10 := ne_of_bne h10; try simp only [List.length_map] at k10
    have hab : a ≠ b := by intro hc; subst hc; exact k10 rfl
    refine awp_seq ?_
    refine awp_region ?_
    refine sq_plain rfl rfl rfl (w_assign rfl ev_cb) ?_
    refine sq_nil ?_
    refine awp_ret ?_
    exact retR rfl (rv_tmp' rfl (by exact congrArg AV.bool (by simp [hab])))
  · intro h10
    have k10 := eq_of_bne_false h10; try simp only [List.length_map] at k10
    have heq : a.length = b.length := by omega
    refine awp_skip ?_
    refine awp_seq ?_
    refine awp_seq ?_
    refine awp_region ?_
    refine sq_plain rfl rfl rfl (w_assign rfl ev_ci) ?_
    refine sq_nil ?_
    refine awp_block ?_
    refine awp_loop_i [(0, _), (1, _)] _ (fun (i : Nat) => i ≤ a.length ∧ a.take i = b.take i) (fun (i : Nat) => []) (fun (i : Nat) => [(5, AV.int i)]) (fun (i : Nat) => a.length - i) (0) ?_ (le_env ⟨rfl, rfl, rfl, trivial⟩) ?_
    · exact ⟨Nat.zero_le _, rfl⟩
    intro i hinv
    refine awp_seq ?_
    refine awp_seq ?_
    refine awp_region ?_
    refine sq_plain rfl rfl rfl (w_move rfl (ev_tmp rfl)) ?_
    refine sq_plain rfl rfl rfl (w_move rfl (ev_tmp rfl)) ?_
    refine sq_plain rfl rfl rfl (w_llen rfl Try.underlying64 (ev_tmp rfl)) ?_
    refine sq_plain rfl rfl rfl (w_lss rfl (ev_tmp rfl) (ev_tmp rfl)) ?_
    refine sq_nil ?_
    refine awp_cond (ev_tmp rfl) ?_ ?_
    · intro h14
      have k14 := of_decide_eq_true h14; try simp only [List.length_map] at k14
      have hlt : i < a.length := by omega
      obtain ⟨x, hx⟩ := get_some hlt
      obtain ⟨y, hy⟩ := get_some (show i < b.length by omega)
      refine awp_skip ?_
      refine awp_seq ?_
      refine awp_block ?_
      refine awp_seq ?_
      refine awp_region_any (by kernel_rfl) (by kernel_rfl) rfl ?_
      refine ch_plain rfl rfl (w_move rfl (ev_tmp rfl)) ?_
      refine ch_plain rfl rfl (w_move rfl (ev_tmp rfl)) ?_
      refine ch_plain rfl rfl (w_idx rfl Try.underlying64 Try.sizeOf105 (ev_tmp rfl) (ev_tmp rfl) (by omega) (by simp only [Int.toNat_natCast, List.getElem?_map, hx, Option.map_some]; try rfl)) ?_
      refine ch_plain rfl rfl (w_loadE rfl (ev_tmp rfl) Try.isAgg105 Try.sizeOf105) ?_
      refine ch_plain rfl rfl (w_move rfl (ev_tmp rfl)) ?_
      refine ch_plain rfl rfl (w_move rfl (ev_tmp rfl)) ?_
      refine ch_plain rfl rfl (w_idx rfl Try.underlying64 Try.sizeOf105 (ev_tmp rfl) (ev_tmp rfl) (by omega) (by simp only [Int.toNat_natCast, List.getElem?_map, hy, Option.map_some]; try rfl)) ?_
      refine ch_plain rfl rfl (w_loadE rfl (ev_tmp rfl) Try.isAgg105 Try.sizeOf105) ?_
      refine ch_plain rfl rfl (w_call rfl Try.call90 rfl (eqWrite_spec _ _) (evl_cons (ev_tmp rfl) (evl_cons (ev_tmp rfl) evl_nil))) ?_
      refine ch_plain rfl rfl (w_not rfl (ev_tmp rfl)) ?_
      refine ch_nil ?_
      refine awp_cond (ev_tmp rfl) ?_ ?_
      · intro h26
        have hab : a ≠ b := by intro hc; subst hc; rw [hx] at hy; injection hy with hy; subst hy; simp at h26
        refine awp_seq ?_
        refine awp_region ?_
        refine sq_plain rfl rfl rfl (w_assign rfl ev_cb) ?_
        refine sq_nil ?_
        refine awp_ret ?_
        exact retR rfl (rv_tmp' rfl (by exact congrArg AV.bool (by simp [hab])))
      · intro h26
        refine awp_skip ?_
        refine awp_region ?_
        refine sq_plain rfl rfl rfl (w_move rfl (ev_tmp rfl)) ?_
        refine sq_plain rfl rfl rfl (w_addi rfl (ev_tmp rfl) ev_ci (by first | omega | ((try simp only [List.length_map, szR] at *); omega) | (have hc2 := hc; simp only [Bool.and_eq_true, Bool.or_eq_true, Bool.or_eq_false_iff, Bool.and_eq_false_iff, Bool.not_eq_true', Bool.not_eq_false', decide_eq_true_eq, decide_eq_false_iff_not, beq_iff_eq, bne_iff_ne] at hc2; omega))) ?_
        refine sq_plain rfl rfl rfl (w_assign rfl (ev_tmp rfl)) ?_
        refine sq_nil ?_
        refine round_end i (i + 1) ?_ ?_ (le_env ⟨rfl, rfl, rfl, trivial⟩)
        · exact ⟨by omega, take_eq_succ hinv.2 hx (by rw [hy]; congr 1; simp_all)⟩
        · omega
    · intro h14
      have k14 := of_decide_eq_false h14; try simp only [List.length_map] at k14
      have hge : a.length ≤ i := by omega
      have hab : a = b := take_eq_of heq hinv.2 hge
      refine awp_exit ?_
      refine awp_seq ?_
      refine awp_region ?_
      refine sq_plain rfl rfl rfl (w_assign rfl ev_cb) ?_
      refine sq_nil ?_
      refine awp_ret ?_
      exact retR rfl (rv_tmp' rfl (by exact congrArg AV.bool (by simp [hab])))
theorem szMove_spec (a : TMove) (left : Int) (hok : a.ok) (h0 : 0 ≤ left) (h1 : left ≤ 1048576) : FSpec Try.prog 31 [AV.agg a.cs, AV.int left] (AV.int (szR a.size left)) := by
  obtain ⟨oLow, oHigh, oFrom, oTo, oLast⟩ := hok
  refine spec_of_awp Try.func31 rfl Try.ntmps31 rfl ?_
  refine awp_seq ?_
  refine awp_region ?_
  refine sq_box rfl rfl rfl rfl (ev_tmp rfl) ?_
  intro b2
  refine sq_plain rfl rfl rfl (w_assign rfl ev_ci) ?_
  refine sq_nil ?_
  refine awp_seq ?_
  refine awp_region ?_
  refine sq_plain rfl rfl rfl (w_move rfl (ev_tmp rfl)) ?_
  refine sq_plain rfl rfl rfl (w_fldB rfl Try.underlying61 rfl Try.sizeOf9 (ev_tmp rfl)) ?_
  refine sq_plain rfl rfl rfl (w_loadB1 0 rfl (ev_tmp rfl) rfl Try.isAgg9 rfl) ?_
  refine sq_plain rfl rfl rfl (w_slen rfl Try.underlying9 (ev_tmp rfl)) ?_
  refine sq_plain rfl rfl rfl (w_subi rfl (ev_tmp rfl) (ev_tmp rfl) (by first | omega | ((try simp only [List.length_map, szR] at *); omega) | (have hc2 := hc; simp only [Bool.and_eq_true, Bool.or_eq_true, Bool.or_eq_false_iff, Bool.and_eq_false_iff, Bool.not_eq_true', Bool.not_eq_false', decide_eq_true_eq, decide_eq_false_iff_not, beq_iff_eq, bne_iff_ne] at hc2; omega))) ?_
  refine sq_plain rfl rfl rfl (w_assign rfl (ev_tmp rfl)) ?_
  refine sq_nil ?_
  refine awp_seq ?_
  refine awp_seq ?_
  refine awp_region ?_
  refine sq_plain rfl rfl rfl (w_move rfl (ev_tmp rfl)) ?_
  refine sq_plain rfl rfl rfl (w_lss rfl (ev_tmp rfl) ev_ci) ?_
  refine sq_nil ?_
  refine awp_cond (ev_tmp rfl) ?_ ?_
  · intro h11
    have k11 := of_decide_eq_true h11; try simp only [List.length_map] at k11
    refine awp_seq ?_
    refine awp_region ?_
    refine sq_plain rfl rfl rfl (w_assign rfl ev_ci) ?_
    refine sq_nil ?_
    refine awp_ret ?_
    exact retR rfl (rv_tmp' rfl (by exact congrArg AV.int (by simp only [szR, TMove.size, decide_eq_true_eq, decide_eq_false_iff_not] at *; omega)))
  · intro h11
    have k11 := of_decide_eq_false h11; try simp only [List.length_map] at k11
    refine awp_skip ?_
    refine awp_seq ?_
    refine awp_region ?_
    refine sq_plain rfl rfl rfl (w_move rfl (ev_tmp rfl)) ?_
    refine sq_plain rfl rfl rfl (w_fldB rfl Try.underlying61 rfl Try.sizeOf9 (ev_tmp rfl)) ?_
    refine sq_plain rfl rfl rfl (w_loadB1 0 rfl (ev_tmp rfl) rfl Try.isAgg9 rfl) ?_
    refine sq_plain rfl rfl rfl (w_slen rfl Try.underlying9 (ev_tmp rfl)) ?_
    refine sq_plain rfl rfl rfl (w_subi rfl (ev_tmp rfl) (ev_tmp rfl) (by first | omega | ((try simp only [List.length_map, szR] at *); omega) | (have hc2 := hc; simp only [Bool.and_eq_true, Bool.or_eq_true, Bool.or_eq_false_iff, Bool.and_eq_false_iff, Bool.not_eq_true', Bool.not_eq_false', decide_eq_true_eq, decide_eq_false_iff_not, beq_iff_eq, bne_iff_ne] at hc2; omega))) ?_
    refine sq_plain rfl rfl rfl (w_assign rfl (ev_tmp rfl)) ?_
    refine sq_nil ?_
    refine awp_seq ?_
    refine awp_seq ?_
    refine awp_region ?_
    refine sq_plain rfl rfl rfl (w_move rfl (ev_tmp rfl)) ?_
    refine sq_plain rfl rfl rfl (w_lss rfl (ev_tmp rfl) ev_ci) ?_
    refine sq_nil ?_
    refine awp_cond (ev_tmp rfl) ?_ ?_
    · intro h18
      have k18 := of_decide_eq_true h18; try simp only [List.length_map] at k18
      refine awp_seq ?_
      refine awp_region ?_
      refine sq_plain rfl rfl rfl (w_assign rfl ev_ci) ?_
      refine sq_nil ?_
      refine awp_ret ?_
      exact retR rfl (rv_tmp' rfl (by exact congrArg AV.int (by simp only [szR, TMove.size, decide_eq_true_eq, decide_eq_false_iff_not] at *; omega)))
    · intro h18
      have k18 := of_decide_eq_false h18; try simp only [List.length_map] at k18
      refine awp_skip ?_
      refine awp_seq ?_
      refine awp_region ?_
      refine sq_plain rfl rfl rfl (w_fldB rfl Try.underlying61 rfl Try.sizeOf59 (ev_tmp rfl)) ?_
      refine sq_plain rfl rfl rfl (w_loadB1 0 rfl (ev_tmp rfl) rfl Try.isAgg59 rfl) ?_
      refine sq_plain rfl rfl rfl (w_move rfl (ev_tmp rfl)) ?_
      refine sq_plain rfl rfl rfl (w_call rfl Try.call69 rfl (szWriteS_spec _ _ (by first | assumption | trivial) (by first | omega | ((try simp only [List.length_map, szR] at *); omega) | (have hc2 := hc; simp only [Bool.and_eq_true, Bool.or_eq_true, Bool.or_eq_false_iff, Bool.and_eq_false_iff, Bool.not_eq_true', Bool.not_eq_false', decide_eq_true_eq, decide_eq_false_iff_not, beq_iff_eq, bne_iff_ne] at hc2; omega)) (by first | omega | ((try simp only [List.length_map, szR] at *); omega) | (have hc2 := hc; simp only [Bool.and_eq_true, Bool.or_eq_true, Bool.or_eq_false_iff, Bool.and_eq_false_iff, Bool.not_eq_true', Bool.not_eq_false', decide_eq_true_eq, decide_eq_false_iff_not, beq_iff_eq, bne_iff_ne] at hc2; omega))) (evl_cons (ev_tmp rfl) (evl_cons (ev_tmp rfl) evl_nil))) ?_
      refine sq_plain rfl rfl rfl (w_assign rfl (ev_tmp rfl)) ?_
      refine sq_nil ?_
      refine awp_seq ?_
      refine awp_seq ?_
      refine awp_region ?_
      refine sq_plain rfl rfl rfl (w_move rfl (ev_tmp rfl)) ?_
      refine sq_plain rfl rfl rfl (w_lss rfl (ev_tmp rfl) ev_ci) ?_
      refine sq_nil ?_
      refine awp_cond (ev_tmp rfl) ?_ ?_
      · intro h24
        have k24 := of_decide_eq_true h24; try simp only [List.length_map] at k24
        refine awp_seq ?_
        refine awp_region ?_
        refine sq_plain rfl rfl rfl (w_assign rfl ev_ci) ?_
        refine sq_nil ?_
        refine awp_ret ?_
        exact retR rfl (rv_tmp' rfl (by exact congrArg AV.int (by simp only [szR, TMove.size, decide_eq_true_eq, decide_eq_false_iff_not] at *; omega)))
      · intro h24
        have k24 := of_decide_eq_false h24; try simp only [List.length_map] at k24
        refine awp_skip ?_
        refine awp_seq ?_
        refine awp_region ?_
        refine sq_plain rfl rfl rfl (w_fldB rfl Try.underlying61 rfl Try.sizeOf59 (ev_tmp rfl)) ?_
        refine sq_plain rfl rfl rfl (w_loadB1 0 rfl (ev_tmp rfl) rfl Try.isAgg59 rfl) ?_
        refine sq_plain rfl rfl rfl (w_move rfl (ev_tmp rfl)) ?_
        refine sq_plain rfl rfl rfl (w_call rfl Try.call69 rfl (szWriteS_spec _ _ (by first | assumption | trivial) (by first | omega | ((try simp only [List.length_map, szR] at *); omega) | (have hc2 := hc; simp only [Bool.and_eq_true, Bool.or_eq_true, Bool.or_eq_false_iff, Bool.and_eq_false_iff, Bool.not_eq_true', Bool.not_eq_false', decide_eq_true_eq, decide_eq_false_iff_not, beq_iff_eq, bne_iff_ne] at hc2; omega)) (by first | omega | ((try simp only [List.length_map, szR] at *); omega) | (have hc2 := hc; simp only [Bool.and_eq_true, Bool.or_eq_true, Bool.or_eq_false_iff, Bool.and_eq_false_iff, Bool.not_eq_true', Bool.not_eq_false', decide_eq_true_eq, decide_eq_false_iff_not, beq_iff_eq, bne_iff_ne] at hc2; omega))) (evl_cons (ev_tmp rfl) (evl_cons (ev_tmp rfl) evl_nil))) ?_
        refine sq_plain rfl rfl rfl (w_assign rfl (ev_tmp rfl)) ?_
        refine sq_nil ?_
        refine awp_seq ?_
        refine awp_seq ?_
        refine awp_region ?_
        refine sq_plain rfl rfl rfl (w_move rfl (ev_tmp rfl)) ?_
        refine sq_plain rfl rfl rfl (w_lss rfl (ev_tmp rfl) ev_ci) ?_
        refine sq_nil ?_
        refine awp_cond (ev_tmp rfl) ?_ ?_
        · intro h30
          have k30 := of_decide_eq_true h30; try simp only [List.length_map] at k30
          refine awp_seq ?_
          refine awp_region ?_
          refine sq_plain rfl rfl rfl (w_assign rfl ev_ci) ?_
          refine sq_nil ?_
          refine awp_ret ?_
          exact retR rfl (rv_tmp' rfl (by exact congrArg AV.int (by simp only [szR, TMove.size, decide_eq_true_eq, decide_eq_false_iff_not] at *; omega)))
        · intro h30
          have k30 := of_decide_eq_false h30; try simp only [List.length_map] at k30
          refine awp_skip ?_
          refine awp_seq ?_
          refine awp_region ?_
          refine sq_plain rfl rfl rfl (w_move rfl (ev_tmp rfl)) ?_
          refine sq_plain rfl rfl rfl (w_fldB rfl Try.underlying61 rfl Try.sizeOf9 (ev_tmp rfl)) ?_
          refine sq_plain rfl rfl rfl (w_loadB1 0 rfl (ev_tmp rfl) rfl Try.isAgg9 rfl) ?_
          refine sq_plain rfl rfl rfl (w_slen rfl Try.underlying9 (ev_tmp rfl)) ?_
          refine sq_plain rfl rfl rfl (w_subi rfl (ev_tmp rfl) (ev_tmp rfl) (by first | omega | ((try simp only [List.length_map, szR] at *); omega) | (have hc2 := hc; simp only [Bool.and_eq_true, Bool.or_eq_true, Bool.or_eq_false_iff, Bool.and_eq_false_iff, Bool.not_eq_true', Bool.not_eq_false', decide_eq_true_eq, decide_eq_false_iff_not, beq_iff_eq, bne_iff_ne] at hc2; omega))) ?_
          refine sq_plain rfl rfl rfl (w_assign rfl (ev_tmp rfl)) ?_
          refine sq_nil ?_
          refine awp_seq ?_
          refine awp_seq ?_
          refine awp_region ?_
          refine sq_plain rfl rfl rfl (w_move rfl (ev_tmp rfl)) ?_
          refine sq_plain rfl rfl rfl (w_lss rfl (ev_tmp rfl) ev_ci) ?_
          refine sq_nil ?_
          refine awp_cond (ev_tmp rfl) ?_ ?_
          · intro h37
            have k37 := of_decide_eq_true h37; try simp only [List.length_map] at k37
            refine awp_seq ?_
            refine awp_region ?_
            refine sq_plain rfl rfl rfl (w_assign rfl ev_ci) ?_
            refine sq_nil ?_
            refine awp_ret ?_
            exact retR rfl (rv_tmp' rfl (by exact congrArg AV.int (by simp only [szR, TMove.size, decide_eq_true_eq, decide_eq_false_iff_not] at *; omega)))
          · intro h37
            have k37 := of_decide_eq_false h37; try simp only [List.length_map] at k37
            refine awp_skip ?_
            refine awp_seq ?_
            refine awp_region ?_
            refine sq_plain rfl rfl rfl (w_move rfl (ev_tmp rfl)) ?_
            refine sq_plain rfl rfl rfl (w_assign rfl (ev_tmp rfl)) ?_
            refine sq_nil ?_
            refine awp_ret ?_
            exact retR rfl (rv_tmp' rfl (by exact congrArg AV.int (by simp only [szR, TMove.size, decide_eq_true_eq, decide_eq_false_iff_not] at *; omega)))
theorem toMove_spec (a : TMove) (hs : a.size ≤ 1048576) : FSpec Try.prog 33 [AV.agg a.cs] (AV.agg a.cs) := by
  unfold TMove.size at hs
  refine spec_of_awp Try.func33 rfl Try.ntmps33 rfl ?_
  refine awp_seq ?_
  refine awp_region ?_
  refine sq_box rfl rfl rfl rfl (ev_tmp rfl) ?_
  intro b1
  refine sq_alloc rfl rfl rfl rfl Try.zeroValue66 rfl ?_
  intro b2
  refine sq_nil ?_
  refine awp_seq ?_
  refine awp_region ?_
  refine sq_alloc rfl rfl rfl rfl Try.zeroValue66 rfl ?_
  intro b3
  refine sq_nil ?_
  refine awp_seq ?_
  refine awp_region ?_
  refine sq_plain rfl rfl rfl (w_fldB rfl Try.underlying61 rfl Try.sizeOf9 (ev_tmp rfl)) ?_
  refine sq_plain rfl rfl rfl (w_loadB1 2 rfl (ev_tmp rfl) rfl Try.isAgg9 rfl) ?_
  refine sq_plain rfl rfl rfl (w_fldB rfl Try.underlying66 rfl Try.sizeOf9 (ev_tmp rfl)) ?_
  refine sq_storeB1 0 rfl rfl rfl (ev_tmp rfl) (ev_tmp rfl) (as_str _) rfl Try.sizeOf9 rfl ?_
  refine sq_nil ?_
  refine awp_seq ?_
  refine awp_region ?_
  refine sq_plain rfl rfl rfl (w_fldB rfl Try.underlying61 rfl Try.sizeOf9 (ev_tmp rfl)) ?_
  refine sq_plain rfl rfl rfl (w_loadB1 2 rfl (ev_tmp rfl) rfl Try.isAgg9 rfl) ?_
  refine sq_plain rfl rfl rfl (w_fldB rfl Try.underlying66 rfl Try.sizeOf9 (ev_tmp rfl)) ?_
  refine sq_storeB1 0 rfl rfl rfl (ev_tmp rfl) (ev_tmp rfl) (as_str _) rfl Try.sizeOf9 rfl ?_
  refine sq_nil ?_
  refine awp_seq ?_
  refine awp_region ?_
  refine sq_plain rfl rfl rfl (w_fldB rfl Try.underlying61 rfl Try.sizeOf3 (ev_tmp rfl)) ?_
  refine sq_plain rfl rfl rfl (w_loadB1 2 rfl (ev_tmp rfl) rfl Try.isAgg3 rfl) ?_
  refine sq_plain rfl rfl rfl (w_fldB rfl Try.underlying66 rfl Try.sizeOf3 (ev_tmp rfl)) ?_
  refine sq_storeB1 0 rfl rfl rfl (ev_tmp rfl) (ev_tmp rfl) (as_ik _ _) rfl Try.sizeOf3 rfl ?_
  refine sq_nil ?_
  refine awp_seq ?_
  refine awp_region ?_
  refine sq_plain rfl rfl rfl (w_fldB rfl Try.underlying61 rfl Try.sizeOf59 (ev_tmp rfl)) ?_
  refine sq_plain rfl rfl rfl (w_loadB1 2 rfl (ev_tmp rfl) rfl Try.isAgg59 rfl) ?_
  refine sq_plain rfl rfl rfl (w_call rfl Try.call71 rfl (toWriteS_spec _ (by first | assumption | omega)) (evl_cons (ev_tmp rfl) evl_nil)) ?_
  refine sq_plain rfl rfl rfl (w_fldB rfl Try.underlying66 rfl Try.sizeOf64 (ev_tmp rfl)) ?_
  refine sq_storeB1 0 rfl rfl rfl (ev_tmp rfl) (ev_tmp rfl) (as_list _ _) rfl Try.sizeOf64 rfl ?_
  refine sq_nil ?_
  refine awp_seq ?_
  refine awp_region ?_
  refine sq_plain rfl rfl rfl (w_fldB rfl Try.underlying61 rfl Try.sizeOf59 (ev_tmp rfl)) ?_
  refine sq_plain rfl rfl rfl (w_loadB1 2 rfl (ev_tmp rfl) rfl Try.isAgg59 rfl) ?_
  refine sq_plain rfl rfl rfl (w_call rfl Try.call71 rfl (toWriteS_spec _ (by first | assumption | omega)) (evl_cons (ev_tmp rfl) evl_nil)) ?_
  refine sq_plain rfl rfl rfl (w_fldB rfl Try.underlying66 rfl Try.sizeOf64 (ev_tmp rfl)) ?_
  refine sq_storeB1 0 rfl rfl rfl (ev_tmp rfl) (ev_tmp rfl) (as_list _ _) rfl Try.sizeOf64 rfl ?_
  refine sq_nil ?_
  refine awp_seq ?_
  refine awp_region ?_
  refine sq_plain rfl rfl rfl (w_fldB rfl Try.underlying61 rfl Try.sizeOf9 (ev_tmp rfl)) ?_
  refine sq_plain rfl rfl rfl (w_loadB1 2 rfl (ev_tmp rfl) rfl Try.isAgg9 rfl) ?_
  refine sq_plain rfl rfl rfl (w_fldB rfl Try.underlying66 rfl Try.sizeOf9 (ev_tmp rfl)) ?_
  refine sq_storeB1 0 rfl rfl rfl (ev_tmp rfl) (ev_tmp rfl) (as_str _) rfl Try.sizeOf9 rfl ?_
  refine sq_nil ?_
  refine awp_seq ?_
  refine awp_region ?_
  refine sq_plain rfl rfl rfl (w_fldB rfl Try.underlying61 rfl Try.sizeOf4 (ev_tmp rfl)) ?_
  refine sq_plain rfl rfl rfl (w_loadB1 2 rfl (ev_tmp rfl) rfl Try.isAgg4 rfl) ?_
  refine sq_plain rfl rfl rfl (w_fldB rfl Try.underlying66 rfl Try.sizeOf4 (ev_tmp rfl)) ?_
  refine sq_storeB1 0 rfl rfl rfl (ev_tmp rfl) (ev_tmp rfl) (as_bool _) rfl Try.sizeOf4 rfl ?_
  refine sq_nil ?_
  refine awp_seq ?_
  refine awp_region ?_
  refine sq_plain rfl rfl rfl (w_loadA 0 rfl (ev_tmp rfl) rfl Try.isAgg66 Try.sizeOf66 rfl) ?_
  refine sq_storeB0 1 rfl rfl rfl (ev_tmp rfl) (ev_tmp rfl) (as_agg _) rfl Try.sizeOf66 rfl ?_
  refine sq_nil ?_
  refine awp_ret ?_
  exact retR rfl (rv_cell (ys := _) 1 rfl rfl Try.isAgg66 Try.sizeOf66 rfl)
theorem eqMove_spec (a b : TMove) : FSpec Try.prog 35 [AV.agg a.cs, AV.agg b.cs] (AV.bool (decide (a = b))) := by
  refine spec_of_awp Try.func35 rfl Try.ntmps35 rfl ?_
  refine awp_seq ?_
  refine awp_region ?_
  refine sq_box rfl rfl rfl rfl (ev_tmp rfl) ?_
  intro b2
  refine sq_box rfl rfl rfl rfl (ev_tmp rfl) ?_
  intro b3
  refine sq_plain rfl rfl rfl (w_assign rfl ev_cb) ?_
  refine sq_nil ?_
  refine awp_seq ?_
  refine awp_seq ?_
  refine awp_region ?_
  refine sq_plain rfl rfl rfl (w_fldB rfl Try.underlying66 rfl Try.sizeOf9 (ev_tmp rfl)) ?_
  refine sq_plain rfl rfl rfl (w_loadB1 1 rfl (ev_tmp rfl) rfl Try.isAgg9 rfl) ?_
  refine sq_plain rfl rfl rfl (w_fldB rfl Try.underlying66 rfl Try.sizeOf9 (ev_tmp rfl)) ?_
  refine sq_plain rfl rfl rfl (w_loadB1 0 rfl (ev_tmp rfl) rfl Try.isAgg9 rfl) ?_
  refine sq_plain rfl rfl rfl (w_sneq rfl (ev_tmp rfl) (ev_tmp rfl)) ?_
  refine sq_nil ?_
  refine awp_cond (ev_tmp rfl) ?_ ?_
  · intro h9
    refine awp_seq ?_
    refine awp_region ?_
    refine sq_plain rfl rfl rfl (w_assign rfl ev_cb) ?_
    refine sq_nil ?_
    refine awp_ret ?_
    exact retR rfl (rv_tmp' rfl (by exact congrArg AV.bool (by cases a; cases b; simp_all)))
  · intro h9
    refine awp_skip ?_
    refine awp_seq ?_
    refine awp_seq ?_
    refine awp_region ?_
    refine sq_plain rfl rfl rfl (w_fldB rfl Try.underlying66 rfl Try.sizeOf9 (ev_tmp rfl)) ?_
    refine sq_plain rfl rfl rfl (w_loadB1 1 rfl (ev_tmp rfl) rfl Try.isAgg9 rfl) ?_
    refine sq_plain rfl rfl rfl (w_fldB rfl Try.underlying66 rfl Try.sizeOf9 (ev_tmp rfl)) ?_
    refine sq_plain rfl rfl rfl (w_loadB1 0 rfl (ev_tmp rfl) rfl Try.isAgg9 rfl) ?_
    refine sq_plain rfl rfl rfl (w_sneq rfl (ev_tmp rfl) (ev_tmp rfl)) ?_
    refine sq_nil ?_
    refine awp_cond (ev_tmp rfl) ?_ ?_
    · intro h14
      refine awp_seq ?_
      refine awp_region ?_
      refine sq_plain rfl rfl rfl (w_assign rfl ev_cb) ?_
      refine sq_nil ?_
      refine awp_ret ?_
      exact retR rfl (rv_tmp' rfl (by exact congrArg AV.bool (by cases a; cases b; simp_all)))
    · intro h14
      refine awp_skip ?_
      refine awp_seq ?_
      refine awp_seq ?_
      refine awp_region ?_
      refine sq_plain rfl rfl rfl (w_fldB rfl Try.underlying66 rfl Try.sizeOf3 (ev_tmp rfl)) ?_
      refine sq_plain rfl rfl rfl (w_loadB1 1 rfl (ev_tmp rfl) rfl Try.isAgg3 rfl) ?_
      refine sq_plain rfl rfl rfl (w_fldB rfl Try.underlying66 rfl Try.sizeOf3 (ev_tmp rfl)) ?_
      refine sq_plain rfl rfl rfl (w_loadB1 0 rfl (ev_tmp rfl) rfl Try.isAgg3 rfl) ?_
      refine sq_plain rfl rfl rfl (w_neq rfl (ev_tmp rfl) (ev_tmp rfl)) ?_
      refine sq_nil ?_
      refine awp_cond (ev_tmp rfl) ?_ ?_
      · intro h19
        have k19 := ne_of_bne h19; try simp only [List.length_map] at k19
        refine awp_seq ?_
        refine awp_region ?_
        refine sq_plain rfl rfl rfl (w_assign rfl ev_cb) ?_
        refine sq_nil ?_
        refine awp_ret ?_
        exact retR rfl (rv_tmp' rfl (by exact congrArg AV.bool (by cases a; cases b; simp_all)))
      · intro h19
        have k19 := eq_of_bne_false h19; try simp only [List.length_map] at k19
        refine awp_skip ?_
        refine awp_seq ?_
        refine awp_seq ?_
        refine awp_region ?_
        refine sq_plain rfl rfl rfl (w_fldB rfl Try.underlying66 rfl Try.sizeOf64 (ev_tmp rfl)) ?_
        refine sq_plain rfl rfl rfl (w_loadB1 1 rfl (ev_tmp rfl) rfl Try.isAgg64 rfl) ?_
        refine sq_plain rfl rfl rfl (w_fldB rfl Try.underlying66 rfl Try.sizeOf64 (ev_tmp rfl)) ?_
        refine sq_plain rfl rfl rfl (w_loadB1 0 rfl (ev_tmp rfl) rfl Try.isAgg64 rfl) ?_
        refine sq_plain rfl rfl rfl (w_call rfl Try.call73 rfl (eqWriteS_spec _ _) (evl_cons (ev_tmp rfl) (evl_cons (ev_tmp rfl) evl_nil))) ?_
        refine sq_plain rfl rfl rfl (w_not rfl (ev_tmp rfl)) ?_
        refine sq_nil ?_
        refine awp_cond (ev_tmp rfl) ?_ ?_
        · intro h25
          refine awp_seq ?_
          refine awp_region ?_
          refine sq_plain rfl rfl rfl (w_assign rfl ev_cb) ?_
          refine sq_nil ?_
          refine awp_ret ?_
          exact retR rfl (rv_tmp' rfl (by exact congrArg AV.bool (by cases a; cases b; simp_all)))
        · intro h25
          refine awp_skip ?_
          refine awp_seq ?_
          refine awp_seq ?_
          refine awp_region ?_
          refine sq_plain rfl rfl rfl (w_fldB rfl Try.underlying66 rfl Try.sizeOf64 (ev_tmp rfl)) ?_
          refine sq_plain rfl rfl rfl (w_loadB1 1 rfl (ev_tmp rfl) rfl Try.isAgg64 rfl) ?_
          refine sq_plain rfl rfl rfl (w_fldB rfl Try.underlying66 rfl Try.sizeOf64 (ev_tmp rfl)) ?_
          refine sq_plain rfl rfl rfl (w_loadB1 0 rfl (ev_tmp rfl) rfl Try.isAgg64 rfl) ?_
          refine sq_plain rfl rfl rfl (w_call rfl Try.call73 rfl (eqWriteS_spec _ _) (evl_cons (ev_tmp rfl) (evl_cons (ev_tmp rfl) evl_nil))) ?_
          refine sq_plain rfl rfl rfl (w_not rfl (ev_tmp rfl)) ?_
          refine sq_nil ?_
          refine awp_cond (ev_tmp rfl) ?_ ?_
          · intro h31
            refine awp_seq ?_
            refine awp_region ?_
            refine sq_plain rfl rfl rfl (w_assign rfl ev_cb) ?_
            refine sq_nil ?_
            refine awp_ret ?_
            exact retR rfl (rv_tmp' rfl (by exact congrArg AV.bool (by cases a; cases b; simp_all)))
          · intro h31
            refine awp_skip ?_
            refine awp_seq ?_
            refine awp_seq ?_
            refine awp_region ?_
            refine sq_plain rfl rfl rfl (w_fldB rfl Try.underlying66 rfl Try.sizeOf9 (ev_tmp rfl)) ?_
            refine sq_plain rfl rfl rfl (w_loadB1 1 rfl (ev_tmp rfl) rfl Try.isAgg9 rfl) ?_
            refine sq_plain rfl rfl rfl (w_fldB rfl Try.underlying66 rfl Try.sizeOf9 (ev_tmp rfl)) ?_
            refine sq_plain rfl rfl rfl (w_loadB1 0 rfl (ev_tmp rfl) rfl Try.isAgg9 rfl) ?_
            refine sq_plain rfl rfl rfl (w_sneq rfl (ev_tmp rfl) (ev_tmp rfl)) ?_
            refine sq_nil ?_
            refine awp_cond (ev_tmp rfl) ?_ ?_
            · intro h36
              refine awp_seq ?_
              refine awp_region ?_
              refine sq_plain rfl rfl rfl (w_assign rfl ev_cb) ?_
              refine sq_nil ?_
              refine awp_ret ?_
              exact retR rfl (rv_tmp' rfl (by exact congrArg AV.bool (by cases a; cases b; simp_all)))
            · intro h36
              refine awp_skip ?_
              refine awp_seq ?_
              refine awp_seq ?_
              refine awp_region ?_
              refine sq_plain rfl rfl rfl (w_fldB rfl Try.underlying66 rfl Try.sizeOf4 (ev_tmp rfl)) ?_
              refine sq_plain rfl rfl rfl (w_loadB1 1 rfl (ev_tmp rfl) rfl Try.isAgg4 rfl) ?_
              refine sq_plain rfl rfl rfl (w_fldB rfl Try.underlying66 rfl Try.sizeOf4 (ev_tmp rfl)) ?_
              refine sq_plain rfl rfl rfl (w_loadB1 0 rfl (ev_tmp rfl) rfl Try.isAgg4 rfl) ?_
              refine sq_plain rfl rfl rfl (w_bneq rfl Try.underlying4 (ev_tmp rfl) (ev_tmp rfl)) ?_
              refine sq_nil ?_
              refine awp_cond (ev_tmp rfl) ?_ ?_
              · intro h41
                refine awp_seq ?_
                refine awp_region ?_
                refine sq_plain rfl rfl rfl (w_assign rfl ev_cb) ?_
                refine sq_nil ?_
                refine awp_ret ?_
                exact retR rfl (rv_tmp' rfl (by exact congrArg AV.bool (by cases a; cases b; simp_all)))
              · intro h41
                refine awp_skip ?_
                refine awp_seq ?_
                refine awp_region ?_
                refine sq_plain rfl rfl rfl (w_assign rfl ev_cb) ?_
                refine sq_nil ?_
                refine awp_ret ?_
                exact retR rfl (rv_tmp' rfl (by exact congrArg AV.bool (by cases a; cases b; simp_all)))
theorem szFeedItem_spec (a : TFeedItem) (left : Int) (hok : a.ok) (h0 : 0 ≤ left) (h1 : left ≤ 1048576) : FSpec Try.prog 12 [AV.agg a.cs, AV.int left] (AV.int (szR a.size left)) := by
  obtain ⟨oKey, oVal⟩ := hok
  refine spec_of_awp Try.func12 rfl Try.ntmps12 rfl ?_
  refine awp_seq ?_
  refine awp_region ?_
  refine sq_box rfl rfl rfl rfl (ev_tmp rfl) ?_
  intro b2
  refine sq_plain rfl rfl rfl (w_assign rfl ev_ci) ?_
  refine sq_nil ?_
  refine awp_seq ?_
  refine awp_region ?_
  refine sq_plain rfl rfl rfl (w_move rfl (ev_tmp rfl)) ?_
  refine sq_plain rfl rfl rfl (w_fldB rfl Try.underlying26 rfl Try.sizeOf9 (ev_tmp rfl)) ?_
  refine sq_plain rfl rfl rfl (w_loadB1 0 rfl (ev_tmp rfl) rfl Try.isAgg9 rfl) ?_
  refine sq_plain rfl rfl rfl (w_slen rfl Try.underlying9 (ev_tmp rfl)) ?_
  refine sq_plain rfl rfl rfl (w_subi rfl (ev_tmp rfl) (ev_tmp rfl) (by first | omega | ((try simp only [List.length_map, szR] at *); omega) | (have hc2 := hc; simp only [Bool.and_eq_true, Bool.or_eq_true, Bool.or_eq_false_iff, Bool.and_eq_false_iff, Bool.not_eq_true', Bool.not_eq_false', decide_eq_true_eq, decide_eq_false_iff_not, beq_iff_eq, bne_iff_ne] at hc2; omega))) ?_
  refine sq_plain rfl rfl rfl (w_assign rfl (ev_tmp rfl)) ?_
  refine sq_nil ?_
  refine awp_seq ?_
  refine awp_seq ?_
  refine awp_region ?_
  refine sq_plain rfl rfl rfl (w_move rfl (ev_tmp rfl)) ?_
  refine sq_plain rfl rfl rfl (w_lss rfl (ev_tmp rfl) ev_ci) ?_
  refine sq_nil ?_
  refine awp_cond (ev_tmp rfl) ?_ ?_
  · intro h11
    have k11 := of_decide_eq_true h11; try simp only [List.length_map] at k11
    refine awp_seq ?_
    refine awp_region ?_
    refine sq_plain rfl rfl rfl (w_assign rfl ev_ci) ?_
    refine sq_nil ?_
    refine awp_ret ?_
    exact retR rfl (rv_tmp' rfl (by exact congrArg AV.int (by simp only [szR, TFeedItem.size, decide_eq_true_eq, decide_eq_false_iff_not] at *; omega)))
  · intro h11
    have k11 := of_decide_eq_false h11; try simp only [List.length_map] at k11
    refine awp_skip ?_
    refine awp_seq ?_
    refine awp_region ?_
    refine sq_plain rfl rfl rfl (w_move rfl (ev_tmp rfl)) ?_
    refine sq_plain rfl rfl rfl (w_fldB rfl Try.underlying26 rfl Try.sizeOf9 (ev_tmp rfl)) ?_
    refine sq_plain rfl rfl rfl (w_loadB1 0 rfl (ev_tmp rfl) rfl Try.isAgg9 rfl) ?_
    refine sq_plain rfl rfl rfl (w_slen rfl Try.underlying9 (ev_tmp rfl)) ?_
    refine sq_plain rfl rfl rfl (w_subi rfl (ev_tmp rfl) (ev_tmp rfl) (by first | omega | ((try simp only [List.length_map, szR] at *); omega) | (have hc2 := hc; simp only [Bool.and_eq_true, Bool.or_eq_true, Bool.or_eq_false_iff, Bool.and_eq_false_iff, Bool.not_eq_true', Bool.not_eq_false', decide_eq_true_eq, decide_eq_false_iff_not, beq_iff_eq, bne_iff_ne] at hc2; omega))) ?_
    refine sq_plain rfl rfl rfl (w_assign rfl (ev_tmp rfl)) ?_
    refine sq_nil ?_
    refine awp_seq ?_
    refine awp_seq ?_
    refine awp_region ?_
    refine sq_plain rfl rfl rfl (w_move rfl (ev_tmp rfl)) ?_
    refine sq_plain rfl rfl rfl (w_lss rfl (ev_tmp rfl) ev_ci) ?_
    refine sq_nil ?_
    refine awp_cond (ev_tmp rfl) ?_ ?_
    · intro h18
      have k18 := of_decide_eq_true h18; try simp only [List.length_map] at k18
      refine awp_seq ?_
      refine awp_region ?_
      refine sq_plain rfl rfl rfl (w_assign rfl ev_ci) ?_
      refine sq_nil ?_
      refine awp_ret ?_
      exact retR rfl (rv_tmp' rfl (by exact congrArg AV.int (by simp only [szR, TFeedItem.size, decide_eq_true_eq, decide_eq_false_iff_not] at *; omega)))
    · intro h18
      have k18 := of_decide_eq_false h18; try simp only [List.length_map] at k18
      refine awp_skip ?_
      refine awp_seq ?_
      refine awp_region ?_
      refine sq_plain rfl rfl rfl (w_move rfl (ev_tmp rfl)) ?_
      refine sq_plain rfl rfl rfl (w_assign rfl (ev_tmp rfl)) ?_
      refine sq_nil ?_
      refine awp_ret ?_
      exact retR rfl (rv_tmp' rfl (by exact congrArg AV.int (by simp only [szR, TFeedItem.size, decide_eq_true_eq, decide_eq_false_iff_not] at *; omega)))
theorem toFeedItem_spec (a : TFeedItem) (hs : a.size ≤ 1048576) : FSpec Try.prog 14 [AV.agg a.cs] (AV.agg a.cs) := by
  unfold TFeedItem.size at hs
  refine spec_of_awp Try.func14 rfl Try.ntmps14 rfl ?_
  refine awp_seq ?_
  refine awp_region ?_
  refine sq_box rfl rfl rfl rfl (ev_tmp rfl) ?_
  intro b1
  refine sq_alloc rfl rfl rfl rfl Try.zeroValue29 rfl ?_
  intro b2
  refine sq_nil ?_
  refine awp_seq ?_
  refine awp_region ?_
  refine sq_alloc rfl rfl rfl rfl Try.zeroValue29 rfl ?_
  intro b3
  refine sq_nil ?_
  refine awp_seq ?_
  refine awp_region ?_
  refine sq_plain rfl rfl rfl (w_fldB rfl Try.underlying26 rfl Try.sizeOf3 (ev_tmp rfl)) ?_
  refine sq_plain rfl rfl rfl (w_loadB1 2 rfl (ev_tmp rfl) rfl Try.isAgg3 rfl) ?_
  refine sq_plain rfl rfl rfl (w_fldB rfl Try.underlying29 rfl Try.sizeOf3 (ev_tmp rfl)) ?_
  refine sq_storeB1 0 rfl rfl rfl (ev_tmp rfl) (ev_tmp rfl) (as_ik _ _) rfl Try.sizeOf3 rfl ?_
  refine sq_nil ?_
  refine awp_seq ?_
  refine awp_region ?_
  refine sq_plain rfl rfl rfl (w_fldB rfl Try.underlying26 rfl Try.sizeOf3 (ev_tmp rfl)) ?_
  refine sq_plain rfl rfl rfl (w_loadB1 2 rfl (ev_tmp rfl) rfl Try.isAgg3 rfl) ?_
  refine sq_plain rfl rfl rfl (w_fldB rfl Try.underlying29 rfl Try.sizeOf3 (ev_tmp rfl)) ?_
  refine sq_storeB1 0 rfl rfl rfl (ev_tmp rfl) (ev_tmp rfl) (as_ik _ _) rfl Try.sizeOf3 rfl ?_
  refine sq_nil ?_
  refine awp_seq ?_
  refine awp_region ?_
  refine sq_plain rfl rfl rfl (w_fldB rfl Try.underlying26 rfl Try.sizeOf9 (ev_tmp rfl)) ?_
  refine sq_plain rfl rfl rfl (w_loadB1 2 rfl (ev_tmp rfl) rfl Try.isAgg9 rfl) ?_
  refine sq_plain rfl rfl rfl (w_fldB rfl Try.underlying29 rfl Try.sizeOf9 (ev_tmp rfl)) ?_
  refine sq_storeB1 0 rfl rfl rfl (ev_tmp rfl) (ev_tmp rfl) (as_str _) rfl Try.sizeOf9 rfl ?_
  refine sq_nil ?_
  refine awp_seq ?_
  refine awp_region ?_
  refine sq_plain rfl rfl rfl (w_fldB rfl Try.underlying26 rfl Try.sizeOf9 (ev_tmp rfl)) ?_
  refine sq_plain rfl rfl rfl (w_loadB1 2 rfl (ev_tmp rfl) rfl Try.isAgg9 rfl) ?_
  refine sq_plain rfl rfl rfl (w_fldB rfl Try.underlying29 rfl Try.sizeOf9 (ev_tmp rfl)) ?_
  refine sq_storeB1 0 rfl rfl rfl (ev_tmp rfl) (ev_tmp rfl) (as_str _) rfl Try.sizeOf9 rfl ?_
  refine sq_nil ?_
  refine awp_seq ?_
  refine awp_region ?_
  refine sq_plain rfl rfl rfl (w_fldB rfl Try.underlying26 rfl Try.sizeOf4 (ev_tmp rfl)) ?_
  refine sq_plain rfl rfl rfl (w_loadB1 2 rfl (ev_tmp rfl) rfl Try.isAgg4 rfl) ?_
  refine sq_plain rfl rfl rfl (w_fldB rfl Try.underlying29 rfl Try.sizeOf4 (ev_tmp rfl)) ?_
  refine sq_storeB1 0 rfl rfl rfl (ev_tmp rfl) (ev_tmp rfl) (as_bool _) rfl Try.sizeOf4 rfl ?_
  refine sq_nil ?_
  refine awp_seq ?_
  refine awp_region ?_
  refine sq_plain rfl rfl rfl (w_loadA 0 rfl (ev_tmp rfl) rfl Try.isAgg29 Try.sizeOf29 rfl) ?_
  refine sq_storeB0 1 rfl rfl rfl (ev_tmp rfl) (ev_tmp rfl) (as_agg _) rfl Try.sizeOf29 rfl ?_
  refine sq_nil ?_
  refine awp_ret ?_
  exact retR rfl (rv_cell (ys := _) 1 rfl rfl Try.isAgg29 Try.sizeOf29 rfl)
theorem eqFeedItem_spec (a b : TFeedItem) : FSpec Try.prog 50 [AV.agg a.cs, AV.agg b.cs] (AV.bool (decide (a = b))) := by
  refine spec_of_awp Try.func50 rfl Try.ntmps50 rfl ?_
  refine awp_seq ?_
  refine awp_region ?_
  refine sq_box rfl rfl rfl rfl (ev_tmp rfl) ?_
  intro b2
  refine sq_box rfl rfl rfl rfl (ev_tmp rfl) ?_
  intro b3
  refine sq_plain rfl rfl rfl (w_assign rfl ev_cb) ?_
  refine sq_nil ?_
  refine awp_seq ?_
  refine awp_seq ?_
  refine awp_region ?_
  refine sq_plain rfl rfl rfl (w_fldB rfl Try.underlying29 rfl Try.sizeOf3 (ev_tmp rfl)) ?_
  refine sq_plain rfl rfl rfl (w_loadB1 1 rfl (ev_tmp rfl) rfl Try.isAgg3 rfl) ?_
  refine sq_plain rfl rfl rfl (w_fldB rfl Try.underlying29 rfl Try.sizeOf3 (ev_tmp rfl)) ?_
  refine sq_plain rfl rfl rfl (w_loadB1 0 rfl (ev_tmp rfl) rfl Try.isAgg3 rfl) ?_
  refine sq_plain rfl rfl rfl (w_neq rfl (ev_tmp rfl) (ev_tmp rfl)) ?_
  refine sq_nil ?_
  refine awp_cond (ev_tmp rfl) ?_ ?_
  · intro h9
    have k9 := ne_of_bne h9; try simp only [List.length_map] at k9
    refine awp_seq ?_
    refine awp_region ?_
    refine sq_plain rfl rfl rfl (w_assign rfl ev_cb) ?_
    refine sq_nil ?_
    refine awp_ret ?_
    exact retR rfl (rv_tmp' rfl (by exact congrArg AV.bool (by cases a; cases b; simp_all)))
  · intro h9
    have k9 := eq_of_bne_false h9; try simp only [List.length_map] at k9
    refine awp_skip ?_
    refine awp_seq ?_
    refine awp_seq ?_
    refine awp_region ?_
    refine sq_plain rfl rfl rfl (w_fldB rfl Try.underlying29 rfl Try.sizeOf3 (ev_tmp rfl)) ?_
    refine sq_plain rfl rfl rfl (w_loadB1 1 rfl (ev_tmp rfl) rfl Try.isAgg3 rfl) ?_
    refine sq_plain rfl rfl rfl (w_fldB rfl Try.underlying29 rfl Try.sizeOf3 (ev_tmp rfl)) ?_
    refine sq_plain rfl rfl rfl (w_loadB1 0 rfl (ev_tmp rfl) rfl Try.isAgg3 rfl) ?_
    refine sq_plain rfl rfl rfl (w_neq rfl (ev_tmp rfl) (ev_tmp rfl)) ?_
    refine sq_nil ?_
    refine awp_cond (ev_tmp rfl) ?_ ?_
    · intro h14
      have k14 := ne_of_bne h14; try simp only [List.length_map] at k14
      refine awp_seq ?_
      refine awp_region ?_
      refine sq_plain rfl rfl rfl (w_assign rfl ev_cb) ?_
      refine sq_nil ?_
      refine awp_ret ?_
      exact retR rfl (rv_tmp' rfl (by exact congrArg AV.bool (by cases a; cases b; simp_all)))
    · intro h14
      have k14 := eq_of_bne_false h14; try simp only [List.length_map] at k14
      refine awp_skip ?_
      refine awp_seq ?_
      refine awp_seq ?_
      refine awp_region ?_
      refine sq_plain rfl rfl rfl (w_fldB rfl Try.underlying29 rfl Try.sizeOf9 (ev_tmp rfl)) ?_
      refine sq_plain rfl rfl rfl (w_loadB1 1 rfl (ev_tmp rfl) rfl Try.isAgg9 rfl) ?_
      refine sq_plain rfl rfl rfl (w_fldB rfl Try.underlying29 rfl Try.sizeOf9 (ev_tmp rfl)) ?_
      refine sq_plain rfl rfl rfl (w_loadB1 0 rfl (ev_tmp rfl) rfl Try.isAgg9 rfl) ?_
      refine sq_plain rfl rfl rfl (w_sneq rfl (ev_tmp rfl) (ev_tmp rfl)) ?_
      refine sq_nil ?_
      refine awp_cond (ev_tmp rfl) ?_ ?_
      · intro h19
        refine awp_seq ?_
        refine awp_region ?_
        refine sq_plain rfl rfl rfl (w_assign rfl ev_cb) ?_
        refine sq_nil ?_
        refine awp_ret ?_
        exact retR rfl (rv_tmp' rfl (by exact congrArg AV.bool (by cases a; cases b; simp_all)))
      · intro h19
        refine awp_skip ?_
        refine awp_seq ?_
        refine awp_seq ?_
        refine awp_region ?_
        refine sq_plain rfl rfl rfl (w_fldB rfl Try.underlying29 rfl Try.sizeOf9 (ev_tmp rfl)) ?_
        refine sq_plain rfl rfl rfl (w_loadB1 1 rfl (ev_tmp rfl) rfl Try.isAgg9 rfl) ?_
        refine sq_plain rfl rfl rfl (w_fldB rfl Try.underlying29 rfl Try.sizeOf9 (ev_tmp rfl)) ?_
        refine sq_plain rfl rfl rfl (w_loadB1 0 rfl (ev_tmp rfl) rfl Try.isAgg9 rfl) ?_
        refine sq_plain rfl rfl rfl (w_sneq rfl (ev_tmp rfl) (ev_tmp rfl)) ?_
        refine sq_nil ?_
        refine awp_cond (ev_tmp rfl) ?_ ?_
        · intro h24
          refine awp_seq ?_
          refine awp_region ?_
          refine sq_plain rfl rfl rfl (w_assign rfl ev_cb) ?_
          refine sq_nil ?_
          refine awp_ret ?_
          exact retR rfl (rv_tmp' rfl (by exact congrArg AV.bool (by cases a; cases b; simp_all)))
        · intro h24
          refine awp_skip ?_
          refine awp_seq ?_
          refine awp_seq ?_
          refine awp_region ?_
          refine sq_plain rfl rfl rfl (w_fldB rfl Try.underlying29 rfl Try.sizeOf4 (ev_tmp rfl)) ?_
          refine sq_plain rfl rfl rfl (w_loadB1 1 rfl (ev_tmp rfl) rfl Try.isAgg4 rfl) ?_
          refine sq_plain rfl rfl rfl (w_fldB rfl Try.underlying29 rfl Try.sizeOf4 (ev_tmp rfl)) ?_
          refine sq_plain rfl rfl rfl (w_loadB1 0 rfl (ev_tmp rfl) rfl Try.isAgg4 rfl) ?_
          refine sq_plain rfl rfl rfl (w_bneq rfl Try.underlying4 (ev_tmp rfl) (ev_tmp rfl)) ?_
          refine sq_nil ?_
          refine awp_cond (ev_tmp rfl) ?_ ?_
          · intro h29
            refine awp_seq ?_
            refine awp_region ?_
            refine sq_plain rfl rfl rfl (w_assign rfl ev_cb) ?_
            refine sq_nil ?_
            refine awp_ret ?_
            exact retR rfl (rv_tmp' rfl (by exact congrArg AV.bool (by cases a; cases b; simp_all)))
          · intro h29
            refine awp_skip ?_
            refine awp_seq ?_
            refine awp_region ?_
            refine sq_plain rfl rfl rfl (w_assign rfl ev_cb) ?_
            refine sq_nil ?_
            refine awp_ret ?_
            exact retR rfl (rv_tmp' rfl (by exact congrArg AV.bool (by cases a; cases b; simp_all)))
theorem szIdx_spec (a : TIdx) (left : Int) (hok : a.ok) (h0 : 0 ≤ left) (h1 : left ≤ 1048576) : FSpec Try.prog 81 [AV.agg a.cs, AV.int left] (AV.int (szR a.size left)) := by
  have oName := hok; unfold TIdx.ok at oName
  refine spec_of_awp Try.func81 rfl Try.ntmps81 rfl ?_
  refine awp_seq ?_
  refine awp_region ?_
  refine sq_box rfl rfl rfl rfl (ev_tmp rfl) ?_
  intro b2
  refine sq_plain rfl rfl rfl (w_assign rfl ev_ci) ?_
  refine sq_nil ?_
  refine awp_seq ?_
  refine awp_region ?_
  refine sq_plain rfl rfl rfl (w_move rfl (ev_tmp rfl)) ?_
  refine sq_plain rfl rfl rfl (w_fldB rfl Try.underlying99 rfl Try.sizeOf9 (ev_tmp rfl)) ?_
  refine sq_plain rfl rfl rfl (w_loadB1 0 rfl (ev_tmp rfl) rfl Try.isAgg9 rfl) ?_
  refine sq_plain rfl rfl rfl (w_slen rfl Try.underlying9 (ev_tmp rfl)) ?_
  refine sq_plain rfl rfl rfl (w_subi rfl (ev_tmp rfl) (ev_tmp rfl) (by first | omega | ((try simp only [List.length_map, szR] at *); omega) | (have hc2 := hc; simp only [Bool.and_eq_true, Bool.or_eq_true, Bool.or_eq_false_iff, Bool.and_eq_false_iff, Bool.not_eq_true', Bool.not_eq_false', decide_eq_true_eq, decide_eq_false_iff_not, beq_iff_eq, bne_iff_ne] at hc2; omega))) ?_
  refine sq_plain rfl rfl rfl (w_assign rfl (ev_tmp rfl)) ?_
  refine sq_nil ?_
  refine awp_seq ?_
  refine awp_seq ?_
  refine awp_region ?_
  refine sq_plain rfl rfl rfl (w_move rfl (ev_tmp rfl)) ?_
  refine sq_plain rfl rfl rfl (w_lss rfl (ev_tmp rfl) ev_ci) ?_
  refine sq_nil ?_
  refine awp_cond (ev_tmp rfl) ?_ ?_
  · intro h11
    have k11 := of_decide_eq_true h11; try simp only [List.length_map] at k11
    refine awp_seq ?_
    refine awp_region ?_
    refine sq_plain rfl rfl rfl (w_assign rfl ev_ci) ?_
    refine sq_nil ?_
    refine awp_ret ?_
    exact retR rfl (rv_tmp' rfl (by exact congrArg AV.int (by simp only [szR, TIdx.size, decide_eq_true_eq, decide_eq_false_iff_not] at *; omega)))
  · intro h11
    have k11 := of_decide_eq_false h11; try simp only [List.length_map] at k11
    refine awp_skip ?_
    refine awp_seq ?_
    refine awp_region ?_
    refine sq_plain rfl rfl rfl (w_move rfl (ev_tmp rfl)) ?_
    refine sq_plain rfl rfl rfl (w_assign rfl (ev_tmp rfl)) ?_
    refine sq_nil ?_
    refine awp_ret ?_
    exact retR rfl (rv_tmp' rfl (by exact congrArg AV.int (by simp only [szR, TIdx.size, decide_eq_true_eq, decide_eq_false_iff_not] at *; omega)))
theorem toIdx_spec (a : TIdx) (hs : a.size ≤ 1048576) : FSpec Try.prog 82 [AV.agg a.cs] (AV.agg a.cs) := by
  unfold TIdx.size at hs
  refine spec_of_awp Try.func82 rfl Try.ntmps82 rfl ?_
  refine awp_seq ?_
  refine awp_region ?_
  refine sq_box rfl rfl rfl rfl (ev_tmp rfl) ?_
  intro b1
  refine sq_alloc rfl rfl rfl rfl Try.zeroValue55 rfl ?_
  intro b2
  refine sq_nil ?_
  refine awp_seq ?_
  refine awp_region ?_
  refine sq_alloc rfl rfl rfl rfl Try.zeroValue55 rfl ?_
  intro b3
  refine sq_nil ?_
  refine awp_seq ?_
  refine awp_region ?_
  refine sq_plain rfl rfl rfl (w_fldB rfl Try.underlying99 rfl Try.sizeOf9 (ev_tmp rfl)) ?_
  refine sq_plain rfl rfl rfl (w_loadB1 2 rfl (ev_tmp rfl) rfl Try.isAgg9 rfl) ?_
  refine sq_plain rfl rfl rfl (w_fldB rfl Try.underlying55 rfl Try.sizeOf9 (ev_tmp rfl)) ?_
  refine sq_storeB1 0 rfl rfl rfl (ev_tmp rfl) (ev_tmp rfl) (as_str _) rfl Try.sizeOf9 rfl ?_
  refine sq_nil ?_
  refine awp_seq ?_
  refine awp_region ?_
  refine sq_plain rfl rfl rfl (w_fldB rfl Try.underlying99 rfl Try.sizeOf3 (ev_tmp rfl)) ?_
  refine sq_plain rfl rfl rfl (w_loadB1 2 rfl (ev_tmp rfl) rfl Try.isAgg3 rfl) ?_
  refine sq_plain rfl rfl rfl (w_fldB rfl Try.underlying55 rfl Try.sizeOf3 (ev_tmp rfl)) ?_
  refine sq_storeB1 0 rfl rfl rfl (ev_tmp rfl) (ev_tmp rfl) (as_ik _ _) rfl Try.sizeOf3 rfl ?_
  refine sq_nil ?_
  refine awp_seq ?_
  refine awp_region ?_
  refine sq_plain rfl rfl rfl (w_fldB rfl Try.underlying99 rfl Try.sizeOf3 (ev_tmp rfl)) ?_
  refine sq_plain rfl rfl rfl (w_loadB1 2 rfl (ev_tmp rfl) rfl Try.isAgg3 rfl) ?_
  refine sq_plain rfl rfl rfl (w_fldB rfl Try.underlying55 rfl Try.sizeOf3 (ev_tmp rfl)) ?_
  refine sq_storeB1 0 rfl rfl rfl (ev_tmp rfl) (ev_tmp rfl) (as_ik _ _) rfl Try.sizeOf3 rfl ?_
  refine sq_nil ?_
  refine awp_seq ?_
  refine awp_region ?_
  refine sq_plain rfl rfl rfl (w_loadA 0 rfl (ev_tmp rfl) rfl Try.isAgg55 Try.sizeOf55 rfl) ?_
  refine sq_storeB0 1 rfl rfl rfl (ev_tmp rfl) (ev_tmp rfl) (as_agg _) rfl Try.sizeOf55 rfl ?_
  refine sq_nil ?_
  refine awp_ret ?_
  exact retR rfl (rv_cell (ys := _) 1 rfl rfl Try.isAgg55 Try.sizeOf55 rfl)
theorem eqIdx_spec (a b : TIdx) : FSpec Try.prog 30 [AV.agg a.cs, AV.agg b.cs] (AV.bool (decide (a = b))) := by
  refine spec_of_awp Try.func30 rfl Try.ntmps30 rfl ?_
  refine awp_seq ?_
  refine awp_region ?_
  refine sq_box rfl rfl rfl rfl (ev_tmp rfl) ?_
  intro b2
  refine sq_box rfl rfl rfl rfl (ev_tmp rfl) ?_
  intro b3
  refine sq_plain rfl rfl rfl (w_assign rfl ev_cb) ?_
  refine sq_nil ?_
  refine awp_seq ?_
  refine awp_seq ?_
  refine awp_region ?_
  refine sq_plain rfl rfl rfl (w_fldB rfl Try.underlying55 rfl Try.sizeOf9 (ev_tmp rfl)) ?_
  refine sq_plain rfl rfl rfl (w_loadB1 1 rfl (ev_tmp rfl) rfl Try.isAgg9 rfl) ?_
  refine sq_plain rfl rfl rfl (w_fldB rfl Try.underlying55 rfl Try.sizeOf9 (ev_tmp rfl)) ?_
  refine sq_plain rfl rfl rfl (w_loadB1 0 rfl (ev_tmp rfl) rfl Try.isAgg9 rfl) ?_
  refine sq_plain rfl rfl rfl (w_sneq rfl (ev_tmp rfl) (ev_tmp rfl)) ?_
  refine sq_nil ?_
  refine awp_cond (ev_tmp rfl) ?_ ?_
  · intro h9
    refine awp_seq ?_
    refine awp_region ?_
    refine sq_plain rfl rfl rfl (w_assign rfl ev_cb) ?_
    refine sq_nil ?_
    refine awp_ret ?_
    exact retR rfl (rv_tmp' rfl (by exact congrArg AV.bool (by cases a; cases b; simp_all)))
  · intro h9
    refine awp_skip ?_
    refine awp_seq ?_
    refine awp_seq ?_
    refine awp_region ?_
    refine sq_plain rfl rfl rfl (w_fldB rfl Try.underlying55 rfl Try.sizeOf3 (ev_tmp rfl)) ?_
    refine sq_plain rfl rfl rfl (w_loadB1 1 rfl (ev_tmp rfl) rfl Try.isAgg3 rfl) ?_
    refine sq_plain rfl rfl rfl (w_fldB rfl Try.underlying55 rfl Try.sizeOf3 (ev_tmp rfl)) ?_
    refine sq_plain rfl rfl rfl (w_loadB1 0 rfl (ev_tmp rfl) rfl Try.isAgg3 rfl) ?_
    refine sq_plain rfl rfl rfl (w_neq rfl (ev_tmp rfl) (ev_tmp rfl)) ?_
    refine sq_nil ?_
    refine awp_cond (ev_tmp rfl) ?_ ?_
    · intro h14
      have k14 := ne_of_bne h14; try simp only [List.length_map] at k14
      refine awp_seq ?_
      refine awp_region ?_
      refine sq_plain rfl rfl rfl (w_assign rfl ev_cb) ?_
      refine sq_nil ?_
      refine awp_ret ?_
      exact retR rfl (rv_tmp' rfl (by exact congrArg AV.bool (by cases a; cases b; simp_all)))
    · intro h14
      have k14 := eq_of_bne_false h14; try simp only [List.length_map] at k14
      refine awp_skip ?_
      refine awp_seq ?_
      refine awp_seq ?_
      refine awp_region ?_
      refine sq_plain rfl rfl rfl (w_fldB rfl Try.underlying55 rfl Try.sizeOf3 (ev_tmp rfl)) ?_
      refine sq_plain rfl rfl rfl (w_loadB1 1 rfl (ev_tmp rfl) rfl Try.isAgg3 rfl) ?_
      refine sq_plain rfl rfl rfl (w_fldB rfl Try.underlying55 rfl Try.sizeOf3 (ev_tmp rfl)) ?_
      refine sq_plain rfl rfl rfl (w_loadB1 0 rfl (ev_tmp rfl) rfl Try.isAgg3 rfl) ?_
      refine sq_plain rfl rfl rfl (w_neq rfl (ev_tmp rfl) (ev_tmp rfl)) ?_
      refine sq_nil ?_
      refine awp_cond (ev_tmp rfl) ?_ ?_
      · intro h19
        have k19 := ne_of_bne h19; try simp only [List.length_map] at k19
        refine awp_seq ?_
        refine awp_region ?_
        refine sq_plain rfl rfl rfl (w_assign rfl ev_cb) ?_
        refine sq_nil ?_
        refine awp_ret ?_
        exact retR rfl (rv_tmp' rfl (by exact congrArg AV.bool (by cases a; cases b; simp_all)))
      · intro h19
        have k19 := eq_of_bne_false h19; try simp only [List.length_map] at k19
        refine awp_skip ?_
        refine awp_seq ?_
        refine awp_region ?_
        refine sq_plain rfl rfl rfl (w_assign rfl ev_cb) ?_
        refine sq_nil ?_
        refine awp_ret ?_
        exact retR rfl (rv_tmp' rfl (by exact congrArg AV.bool (by cases a; cases b; simp_all)))
theorem szIdxS_spec (l : List TIdx) (left : Int) (hok : (∀ x ∈ l, x.ok)) (h0 : 0 ≤ left) (h1 : left ≤ 1048576) : FSpec Try.prog 52 [AV.list 3 (l.map TIdx.cs), AV.int left] (AV.int (szR (sizeL TIdx.size l) left)) := by
  refine spec_of_awp Try.func52 rfl Try.ntmps52 rfl ?_
  refine awp_len (t := 0) rfl fun hl => ?_
  try simp only [List.length_map] at hl
  refine awp_seq ?_
  refine awp_region ?_
  refine sq_plain rfl rfl rfl (w_assign rfl ev_ci) ?_
  refine sq_nil ?_
  refine awp_seq ?_
  refine awp_region ?_
  refine sq_plain rfl rfl rfl (w_move rfl (ev_tmp rfl)) ?_
  refine sq_plain rfl rfl rfl (w_move rfl (ev_tmp rfl)) ?_
  refine sq_plain rfl rfl rfl (w_llen rfl Try.underlying40 (ev_tmp rfl)) ?_
  refine sq_plain rfl rfl rfl (w_subi rfl (ev_tmp rfl) (ev_tmp rfl) (by first | omega | ((try simp only [List.length_map, szR] at *); omega) | (have hc2 := hc; simp only [Bool.and_eq_true, Bool.or_eq_true, Bool.or_eq_false_iff, Bool.and_eq_false_iff, Bool.not_eq_true', Bool.not_eq_false', decide_eq_true_eq, decide_eq_false_iff_not, beq_iff_eq, bne_iff_ne] at hc2; omega))) ?_
  refine sq_plain rfl rfl rfl (w_assign rfl (ev_tmp rfl)) ?_
  refine sq_nil ?_
  refine awp_seq ?_
  refine awp_seq ?_
  refine awp_region ?_
  refine sq_plain rfl rfl rfl (w_move rfl (ev_tmp rfl)) ?_
  refine sq_plain rfl rfl rfl (w_lss rfl (ev_tmp rfl) ev_ci) ?_
  refine sq_nil ?_
  refine awp_cond (ev_tmp rfl) ?_ ?_
  · intro h11
    have k11 := of_decide_eq_true h11; try simp only [List.length_map] at k11
    refine awp_seq ?_
    refine awp_region ?_
    refine sq_plain rfl rfl rfl (w_assign rfl ev_ci) ?_
    refine sq_nil ?_
    refine awp_ret ?_
    exact retR rfl (rv_tmp' rfl (by exact congrArg AV.int (by simp only [szR, sizeL, List.length_map, decide_eq_true_eq, decide_eq_false_iff_not] at *; omega)))
  · intro h11
    have k11 := of_decide_eq_false h11; try simp only [List.length_map] at k11
    refine awp_skip ?_
    refine awp_seq ?_
    refine awp_seq ?_
    refine awp_region ?_
    refine sq_plain rfl rfl rfl (w_assign rfl ev_ci) ?_
    refine sq_nil ?_
    refine awp_block ?_
    refine awp_loop_i2 [(0, _)] _ (fun (i : Nat) (b : Int) => i ≤ l.length ∧ b = left - l.length - (((l.take i).map TIdx.size).sum : Nat) ∧ 0 ≤ b) (fun (i : Nat) (b : Int) => []) (fun (i : Nat) (b : Int) => [(1, AV.int b), (5, AV.int i)]) (fun (i : Nat) (b : Int) => l.length - i) (0) (left - ((l.map fun x => TIdx.cs x).length : Int)) ?_ (le_env ⟨rfl, rfl, rfl, trivial⟩) ?_
    · exact ⟨Nat.zero_le _, by simp, by simp only [List.length_map]; omega⟩
    intro i b hinv
    refine awp_seq ?_
    refine awp_seq ?_
    refine awp_region ?_
    refine sq_plain rfl rfl rfl (w_move rfl (ev_tmp rfl)) ?_
    refine sq_plain rfl rfl rfl (w_move rfl (ev_tmp rfl)) ?_
    refine sq_plain rfl rfl rfl (w_llen rfl Try.underlying40 (ev_tmp rfl)) ?_
    refine sq_plain rfl rfl rfl (w_lss rfl (ev_tmp rfl) (ev_tmp rfl)) ?_
    refine sq_nil ?_
    refine awp_cond (ev_tmp rfl) ?_ ?_
    · intro h15
      have k15 := of_decide_eq_true h15; try simp only [List.length_map] at k15
      have hlt : i < l.length := by omega
      obtain ⟨x, hx⟩ := get_some hlt
      have e2 := sum_le TIdx.size l i x hx
      have hokx := hok x (List.mem_of_getElem? hx)
      refine awp_skip ?_
      refine awp_seq ?_
      refine awp_block ?_
      refine awp_seq ?_
      refine awp_region ?_
      refine sq_plain rfl rfl rfl (w_move rfl (ev_tmp rfl)) ?_
      refine sq_plain rfl rfl rfl (w_move rfl (ev_tmp rfl)) ?_
      refine sq_plain rfl rfl rfl (w_idx rfl Try.underlying40 Try.sizeOf99 (ev_tmp rfl) (ev_tmp rfl) (by omega) (by simp only [Int.toNat_natCast, List.getElem?_map, hx, Option.map_some]; try rfl)) ?_
      refine sq_plain rfl rfl rfl (w_loadE rfl (ev_tmp rfl) Try.isAgg99 Try.sizeOf99) ?_
      refine sq_plain rfl rfl rfl (w_move rfl (ev_tmp rfl)) ?_
      refine sq_plain rfl rfl rfl (w_call rfl Try.call81 rfl (szIdx_spec _ _ (by assumption) (by first | omega | ((try simp only [List.length_map, szR] at *); omega) | (have hc2 := hc; simp only [Bool.and_eq_true, Bool.or_eq_true, Bool.or_eq_false_iff, Bool.and_eq_false_iff, Bool.not_eq_true', Bool.not_eq_false', decide_eq_true_eq, decide_eq_false_iff_not, beq_iff_eq, bne_iff_ne] at hc2; omega)) (by first | omega | ((try simp only [List.length_map, szR] at *); omega) | (have hc2 := hc; simp only [Bool.and_eq_true, Bool.or_eq_true, Bool.or_eq_false_iff, Bool.and_eq_false_iff, Bool.not_eq_true', Bool.not_eq_false', decide_eq_true_eq, decide_eq_false_iff_not, beq_iff_eq, bne_iff_ne] at hc2; omega))) (evl_cons (ev_tmp rfl) (evl_cons (ev_tmp rfl) evl_nil))) ?_
      refine sq_plain rfl rfl rfl (w_assign rfl (ev_tmp rfl)) ?_
      refine sq_nil ?_
      refine awp_seq ?_
      refine awp_region ?_
      refine sq_plain rfl rfl rfl (w_move rfl (ev_tmp rfl)) ?_
      refine sq_plain rfl rfl rfl (w_lss rfl (ev_tmp rfl) ev_ci) ?_
      refine sq_nil ?_
      refine awp_cond (ev_tmp rfl) ?_ ?_
      · intro h25
        have k25 := of_decide_eq_true h25; try simp only [List.length_map] at k25
        refine awp_seq ?_
        refine awp_region ?_
        refine sq_plain rfl rfl rfl (w_assign rfl ev_ci) ?_
        refine sq_nil ?_
        refine awp_ret ?_
        exact retR rfl (rv_tmp' rfl (by exact congrArg AV.int (by simp only [szR, sizeL, List.length_map, decide_eq_true_eq, decide_eq_false_iff_not] at *; omega)))
      · intro h25
        have k25 := of_decide_eq_false h25; try simp only [List.length_map] at k25
        refine awp_skip ?_
        refine awp_region ?_
        refine sq_plain rfl rfl rfl (w_move rfl (ev_tmp rfl)) ?_
        refine sq_plain rfl rfl rfl (w_addi rfl (ev_tmp rfl) ev_ci (by first | omega | ((try simp only [List.length_map, szR] at *); omega) | (have hc2 := hc; simp only [Bool.and_eq_true, Bool.or_eq_true, Bool.or_eq_false_iff, Bool.and_eq_false_iff, Bool.not_eq_true', Bool.not_eq_false', decide_eq_true_eq, decide_eq_false_iff_not, beq_iff_eq, bne_iff_ne] at hc2; omega))) ?_
        refine sq_plain rfl rfl rfl (w_assign rfl (ev_tmp rfl)) ?_
        refine sq_nil ?_
        refine round_end2 i b (i + 1) ((szR (TIdx.size x) b)) ?_ ?_ (le_env ⟨rfl, rfl, rfl, trivial⟩)
        · exact ⟨by omega, by have e1 := sum_take TIdx.size l i x hx; simp only [szR, decide_eq_false_iff_not] at *; omega, by omega⟩
        · omega
    · intro h15
      have k15 := of_decide_eq_false h15; try simp only [List.length_map] at k15
      have hge : l.length ≤ i := by omega
      have e3 : ((l.take i).map TIdx.size).sum = (l.map TIdx.size).sum := by rw [List.take_of_length_le hge]
      refine awp_exit ?_
      refine awp_seq ?_
      refine awp_region ?_
      refine sq_plain rfl rfl rfl (w_move rfl (ev_tmp rfl)) ?_
      refine sq_plain rfl rfl rfl (w_assign rfl (ev_tmp rfl)) ?_
      refine sq_nil ?_
      refine awp_ret ?_
      exact retR rfl (rv_tmp' rfl (by exact congrArg AV.int (by simp only [szR, sizeL, List.length_map, decide_eq_true_eq, decide_eq_false_iff_not] at *; omega)))
theorem toIdxS_spec (l : List TIdx) (hs : sizeL TIdx.size l ≤ 1048576) : FSpec Try.prog 57 [AV.list 3 (l.map TIdx.cs)] (AV.list 3 (l.map TIdx.cs)) := by
  have hsl : l.length ≤ 1048576 := Nat.le_trans sizeL_len hs
  refine spec_of_awp Try.func57 rfl Try.ntmps57 rfl ?_
  refine awp_seq ?_
  refine awp_region ?_
  refine sq_plain rfl rfl rfl (w_assign rfl (ev_cnil (sz := 3))) ?_
  refine sq_nil ?_
  refine awp_seq ?_
  refine awp_region ?_
  refine sq_plain rfl rfl rfl (w_move rfl (ev_tmp rfl)) ?_
  refine sq_plain rfl rfl rfl (w_llen rfl Try.underlying40 (ev_tmp rfl)) ?_
  refine sq_make (by' := 32) rfl rfl rfl rfl Try.underlying45 Try.type55 rfl rfl rfl rfl rfl rfl (ev_tmp rfl) (ev_tmp rfl) (by simp only [List.length_map]; omega) (by simp only [List.length_map]; omega) ?_
  intro v7
  refine sq_plain rfl rfl rfl (w_assign rfl (ev_tmp rfl)) ?_
  refine sq_nil ?_
  refine awp_seq ?_
  refine awp_seq ?_
  refine awp_region ?_
  refine sq_plain rfl rfl rfl (w_assign rfl ev_ci) ?_
  refine sq_nil ?_
  refine awp_block ?_
  refine awp_loop_i [(0, _), (2, _), (3, _)] _ (fun (i : Nat) => i ≤ l.length) (fun (i : Nat) => [.arr v7 55 3 ((l.take i).map TIdx.cs ++ List.replicate (l.length - i) [AV.str [], AV.int 0, AV.int 0])]) (fun (i : Nat) => [(4, AV.int i)]) (fun (i : Nat) => l.length - i) (0) ?_ (le_eq (by simp only [List.length_map]; rfl) ⟨rfl, rfl, rfl, rfl, trivial⟩) ?_
  · exact Nat.zero_le _
  intro i hinv
  refine awp_seq ?_
  refine awp_seq ?_
  refine awp_region ?_
  refine sq_plain rfl rfl rfl (w_move rfl (ev_tmp rfl)) ?_
  refine sq_plain rfl rfl rfl (w_move rfl (ev_tmp rfl)) ?_
  refine sq_plain rfl rfl rfl (w_llen rfl Try.underlying40 (ev_tmp rfl)) ?_
  refine sq_plain rfl rfl rfl (w_lss rfl (ev_tmp rfl) (ev_tmp rfl)) ?_
  refine sq_nil ?_
  refine awp_cond (ev_tmp rfl) ?_ ?_
  · intro h11
    have k11 := of_decide_eq_true h11; try simp only [List.length_map] at k11
    have hlt : i < l.length := by omega
    obtain ⟨x, hx⟩ := get_some hlt
    have hsx : TIdx.size x ≤ 1048576 := Nat.le_trans (sizeL_get hx) hs
    refine awp_skip ?_
    refine awp_seq ?_
    refine awp_block ?_
    refine awp_region ?_
    refine sq_plain rfl rfl rfl (w_move rfl (ev_tmp rfl)) ?_
    refine sq_plain rfl rfl rfl (w_move rfl (ev_tmp rfl)) ?_
    refine sq_plain rfl rfl rfl (w_move rfl (ev_tmp rfl)) ?_
    refine sq_plain rfl rfl rfl (w_move rfl (ev_tmp rfl)) ?_
    refine sq_plain rfl rfl rfl (w_idx rfl Try.underlying40 Try.sizeOf99 (ev_tmp rfl) (ev_tmp rfl) (by omega) (by simp only [Int.toNat_natCast, List.getElem?_map, hx, Option.map_some]; try rfl)) ?_
    refine sq_plain rfl rfl rfl (w_loadE rfl (ev_tmp rfl) Try.isAgg99 Try.sizeOf99) ?_
    refine sq_plain rfl rfl rfl (w_call rfl Try.call82 rfl (toIdx_spec _ (by first | assumption | omega | (simp only [] at *; omega))) (evl_cons (ev_tmp rfl) evl_nil)) ?_
    refine sq_plain rfl rfl rfl (w_aidx 0 rfl Try.underlying45 Try.sizeOf55 (ev_tmp rfl) rfl (ev_tmp rfl) (by omega) (by rw [fill_len hinv]; omega)) ?_
    refine sq_storeA 0 rfl rfl rfl (ev_tmp rfl) (ev_tmp rfl) (as_agg _) rfl Try.sizeOf55 rfl (by rw [fill_len hinv]; omega) ?_
    refine sq_nil ?_
    refine awp_region ?_
    refine sq_plain rfl rfl rfl (w_move rfl (ev_tmp rfl)) ?_
    refine sq_plain rfl rfl rfl (w_addi rfl (ev_tmp rfl) ev_ci (by first | omega | ((try simp only [List.length_map, szR] at *); omega) | (have hc2 := hc; simp only [Bool.and_eq_true, Bool.or_eq_true, Bool.or_eq_false_iff, Bool.and_eq_false_iff, Bool.not_eq_true', Bool.not_eq_false', decide_eq_true_eq, decide_eq_false_iff_not, beq_iff_eq, bne_iff_ne] at hc2; omega))) ?_
    refine sq_plain rfl rfl rfl (w_assign rfl (ev_tmp rfl)) ?_
    refine sq_nil ?_
    refine round_end i (i + 1) ?_ ?_ (le_eq (by exact congrArg (fun z => [Own.arr v7 55 3 z]) (fill_step hx)) ⟨rfl, rfl, rfl, rfl, trivial⟩)
    · omega
    · omega
  · intro h11
    have k11 := of_decide_eq_false h11; try simp only [List.length_map] at k11
    have hge : l.length ≤ i := by omega
    rw [fill_done hge]
    refine awp_exit ?_
    refine awp_seq ?_
    refine awp_region ?_
    refine sq_plain rfl rfl rfl (w_move rfl (ev_tmp rfl)) ?_
    refine sq_plain rfl rfl rfl (w_assign rfl (ev_tmp rfl)) ?_
    refine sq_nil ?_
    refine awp_ret ?_
    refine ret_seal 0 2 rfl rfl ?_
    exact retR rfl (rv_tmp' rfl (by first | rfl | (refine congrArg AV.bool ?_; simp_all; done)))
theorem eqIdxS_spec (a b : List TIdx) : FSpec Try.prog 63 [AV.list 3 (a.map TIdx.cs), AV.list 3 (b.map TIdx.cs)] (AV.bool (decide (a = b))) := by
  refine spec_of_awp Try.func63 rfl Try.ntmps63 rfl ?_
  refine awp_len (t := 0) rfl fun hl => ?_
  try simp only [List.length_map] at hl
  refine awp_seq ?_
  refine awp_region ?_
  refine sq_plain rfl rfl rfl (w_assign rfl ev_cb) ?_
  refine sq_nil ?_
  refine awp_seq ?_
  refine awp_seq ?_
  refine awp_region ?_
  refine sq_plain rfl rfl rfl (w_move rfl (ev_tmp rfl)) ?_
  refine sq_plain rfl rfl rfl (w_llen rfl Try.underlying45 (ev_tmp rfl)) ?_
  refine sq_plain rfl rfl rfl (w_move rfl (ev_tmp rfl)) ?_
  refine sq_plain rfl rfl rfl (w_llen rfl Try.underlying45 (ev_tmp rfl)) ?_
  refine sq_plain rfl rfl rfl (w_neq rfl (ev_tmp rfl) (ev_tmp rfl)) ?_
  refine sq_nil ?_
  refine awp_cond (ev_tmp rfl) ?_ ?_
  · intro h10
    have k10 := ne_of_bne h10; try simp only [List.length_map] at k10
    have hab : a ≠ b := by intro hc; subst hc; exact k10 rfl
    refine awp_seq ?_
    refine awp_region ?_
    refine sq_plain rfl rfl rfl (w_assign rfl ev_cb) ?_
    refine sq_nil ?_
    refine awp_ret ?_
    exact retR rfl (rv_tmp' rfl (by exact congrArg AV.bool (by simp [hab])))
  · intro h10
    have k10 := eq_of_bne_false h10; try simp only [List.length_map] at k10
    have heq : a.length = b.length := by omega
    refine awp_skip ?_
    refine awp_seq ?_
    refine awp_seq ?_
    refine awp_region ?_
    refine sq_plain rfl rfl rfl (w_assign rfl ev_ci) ?_
    refine sq_nil ?_
    refine awp_block ?_
    refine awp_loop_i [(0, _), (1, _)] _ (fun (i : Nat) => i ≤ a.length ∧ a.take i = b.take i) (fun (i : Nat) => []) (fun (i : Nat) => [(5, AV.int i)]) (fun (i : Nat) => a.length - i) (0) ?_ (le_env ⟨rfl, rfl, rfl, trivial⟩) ?_
    · exact ⟨Nat.zero_le _, rfl⟩
    intro i hinv
    refine awp_seq ?_
    refine awp_seq ?_
    refine awp_region ?_
    refine sq_plain rfl rfl rfl (w_move rfl (ev_tmp rfl)) ?_
    refine sq_plain rfl rfl rfl (w_move rfl (ev_tmp rfl)) ?_
    refine sq_plain rfl rfl rfl (w_llen rfl Try.underlying45 (ev_tmp rfl)) ?_
    refine sq_plain rfl rfl rfl (w_lss rfl (ev_tmp rfl) (ev_tmp rfl)) ?_
    refine sq_nil ?_
    refine awp_cond (ev_tmp rfl) ?_ ?_
    · intro h14
      have k14 := of_decide_eq_true h14; try simp only [List.length_map] at k14
      have hlt : i < a.length := by omega
      obtain ⟨x, hx⟩ := get_some hlt
      obtain ⟨y, hy⟩ := get_some (show i < b.length by omega)
      refine awp_skip ?_
      refine awp_seq ?_
      refine awp_block ?_
      refine awp_seq ?_
      refine awp_region_any (by kernel_rfl) (by kernel_rfl) rfl ?_
      refine ch_plain rfl rfl (w_move rfl (ev_tmp rfl)) ?_
      refine ch_plain rfl rfl (w_move rfl (ev_tmp rfl)) ?_
      refine ch_plain rfl rfl (w_idx rfl Try.underlying45 Try.sizeOf55 (ev_tmp rfl) (ev_tmp rfl) (by omega) (by simp only [Int.toNat_natCast, List.getElem?_map, hx, Option.map_some]; try rfl)) ?_
      refine ch_plain rfl rfl (w_loadE rfl (ev_tmp rfl) Try.isAgg55 Try.sizeOf55) ?_
      refine ch_plain rfl rfl (w_move rfl (ev_tmp rfl)) ?_
      refine ch_plain rfl rfl (w_move rfl (ev_tmp rfl)) ?_
      refine ch_plain rfl rfl (w_idx rfl Try.underlying45 Try.sizeOf55 (ev_tmp rfl) (ev_tmp rfl) (by omega) (by simp only [Int.toNat_natCast, List.getElem?_map, hy, Option.map_some]; try rfl)) ?_
      refine ch_plain rfl rfl (w_loadE rfl (ev_tmp rfl) Try.isAgg55 Try.sizeOf55) ?_
      refine ch_plain rfl rfl (w_call rfl Try.call30 rfl (eqIdx_spec _ _) (evl_cons (ev_tmp rfl) (evl_cons (ev_tmp rfl) evl_nil))) ?_
      refine ch_plain rfl rfl (w_not rfl (ev_tmp rfl)) ?_
      refine ch_nil ?_
      refine awp_cond (ev_tmp rfl) ?_ ?_
      · intro h26
        have hab : a ≠ b := by intro hc; subst hc; rw [hx] at hy; injection hy with hy; subst hy; simp at h26
        refine awp_seq ?_
        refine awp_region ?_
        refine sq_plain rfl rfl rfl (w_assign rfl ev_cb) ?_
        refine sq_nil ?_
        refine awp_ret ?_
        exact retR rfl (rv_tmp' rfl (by exact congrArg AV.bool (by simp [hab])))
      · intro h26
        refine awp_skip ?_
        refine awp_region ?_
        refine sq_plain rfl rfl rfl (w_move rfl (ev_tmp rfl)) ?_
        refine sq_plain rfl rfl rfl (w_addi rfl (ev_tmp rfl) ev_ci (by first | omega | ((try simp only [List.length_map, szR] at *); omega) | (have hc2 := hc; simp only [Bool.and_eq_true, Bool.or_eq_true, Bool.or_eq_false_iff, Bool.and_eq_false_iff, Bool.not_eq_true', Bool.not_eq_false', decide_eq_true_eq, decide_eq_false_iff_not, beq_iff_eq, bne_iff_ne] at hc2; omega))) ?_
        refine sq_plain rfl rfl rfl (w_assign rfl (ev_tmp rfl)) ?_
        refine sq_nil ?_
        refine round_end i (i + 1) ?_ ?_ (le_env ⟨rfl, rfl, rfl, trivial⟩)
        · exact ⟨by omega, take_eq_succ hinv.2 hx (by rw [hy]; congr 1; simp_all)⟩
        · omega
    · intro h14
      have k14 := of_decide_eq_false h14; try simp only [List.length_map] at k14
      have hge : a.length ≤ i := by omega
      have hab : a = b := take_eq_of heq hinv.2 hge
      refine awp_exit ?_
      refine awp_seq ?_
      refine awp_region ?_
      refine sq_plain rfl rfl rfl (w_assign rfl ev_cb) ?_
      refine sq_nil ?_
      refine awp_ret ?_
      exact retR rfl (rv_tmp' rfl (by exact congrArg AV.bool (by simp [hab])))
theorem szTable_spec (a : TTable) (left : Int) (hok : a.ok) (h0 : 0 ≤ left) (h1 : left ≤ 1048576) : FSpec Try.prog 21 [AV.agg a.cs, AV.int left] (AV.int (szR a.size left)) := by
  obtain ⟨oName, oCols, oIdxs⟩ := hok
  refine spec_of_awp Try.func21 rfl Try.ntmps21 rfl ?_
  refine awp_seq ?_
  refine awp_region ?_
  refine sq_box rfl rfl rfl rfl (ev_tmp rfl) ?_
  intro b2
  refine sq_plain rfl rfl rfl (w_assign rfl ev_ci) ?_
  refine sq_nil ?_
  refine awp_seq ?_
  refine awp_region ?_
  refine sq_plain rfl rfl rfl (w_move rfl (ev_tmp rfl)) ?_
  refine sq_plain rfl rfl rfl (w_fldB rfl Try.underlying42 rfl Try.sizeOf9 (ev_tmp rfl)) ?_
  refine sq_plain rfl rfl rfl (w_loadB1 0 rfl (ev_tmp rfl) rfl Try.isAgg9 rfl) ?_
  refine sq_plain rfl rfl rfl (w_slen rfl Try.underlying9 (ev_tmp rfl)) ?_
  refine sq_plain rfl rfl rfl (w_subi rfl (ev_tmp rfl) (ev_tmp rfl) (by first | omega | ((try simp only [List.length_map, szR] at *); omega) | (have hc2 := hc; simp only [Bool.and_eq_true, Bool.or_eq_true, Bool.or_eq_false_iff, Bool.and_eq_false_iff, Bool.not_eq_true', Bool.not_eq_false', decide_eq_true_eq, decide_eq_false_iff_not, beq_iff_eq, bne_iff_ne] at hc2; omega))) ?_
  refine sq_plain rfl rfl rfl (w_assign rfl (ev_tmp rfl)) ?_
  refine sq_nil ?_
  refine awp_seq ?_
  refine awp_seq ?_
  refine awp_region ?_
  refine sq_plain rfl rfl rfl (w_move rfl (ev_tmp rfl)) ?_
  refine sq_plain rfl rfl rfl (w_lss rfl (ev_tmp rfl) ev_ci) ?_
  refine sq_nil ?_
  refine awp_cond (ev_tmp rfl) ?_ ?_
  · intro h11
    have k11 := of_decide_eq_true h11; try simp only [List.length_map] at k11
    refine awp_seq ?_
    refine awp_region ?_
    refine sq_plain rfl rfl rfl (w_assign rfl ev_ci) ?_
    refine sq_nil ?_
    refine awp_ret ?_
    exact retR rfl (rv_tmp' rfl (by exact congrArg AV.int (by simp only [szR, TTable.size, decide_eq_true_eq, decide_eq_false_iff_not] at *; omega)))
  · intro h11
    have k11 := of_decide_eq_false h11; try simp only [List.length_map] at k11
    refine awp_skip ?_
    refine awp_seq ?_
    refine awp_region ?_
    refine sq_plain rfl rfl rfl (w_fldB rfl Try.underlying42 rfl Try.sizeOf39 (ev_tmp rfl)) ?_
    refine sq_plain rfl rfl rfl (w_loadB1 0 rfl (ev_tmp rfl) rfl Try.isAgg39 rfl) ?_
    refine sq_plain rfl rfl rfl (w_move rfl (ev_tmp rfl)) ?_
    refine sq_plain rfl rfl rfl (w_call rfl Try.call51 rfl (szStringS_spec _ _ (by first | assumption | trivial) (by first | omega | ((try simp only [List.length_map, szR] at *); omega) | (have hc2 := hc; simp only [Bool.and_eq_true, Bool.or_eq_true, Bool.or_eq_false_iff, Bool.and_eq_false_iff, Bool.not_eq_true', Bool.not_eq_false', decide_eq_true_eq, decide_eq_false_iff_not, beq_iff_eq, bne_iff_ne] at hc2; omega)) (by first | omega | ((try simp only [List.length_map, szR] at *); omega) | (have hc2 := hc; simp only [Bool.and_eq_true, Bool.or_eq_true, Bool.or_eq_false_iff, Bool.and_eq_false_iff, Bool.not_eq_true', Bool.not_eq_false', decide_eq_true_eq, decide_eq_false_iff_not, beq_iff_eq, bne_iff_ne] at hc2; omega))) (evl_cons (ev_tmp rfl) (evl_cons (ev_tmp rfl) evl_nil))) ?_
    refine sq_plain rfl rfl rfl (w_assign rfl (ev_tmp rfl)) ?_
    refine sq_nil ?_
    refine awp_seq ?_
    refine awp_seq ?_
    refine awp_region ?_
    refine sq_plain rfl rfl rfl (w_move rfl (ev_tmp rfl)) ?_
    refine sq_plain rfl rfl rfl (w_lss rfl (ev_tmp rfl) ev_ci) ?_
    refine sq_nil ?_
    refine awp_cond (ev_tmp rfl) ?_ ?_
    · intro h17
      have k17 := of_decide_eq_true h17; try simp only [List.length_map] at k17
      refine awp_seq ?_
      refine awp_region ?_
      refine sq_plain rfl rfl rfl (w_assign rfl ev_ci) ?_
      refine sq_nil ?_
      refine awp_ret ?_
      exact retR rfl (rv_tmp' rfl (by exact congrArg AV.int (by simp only [szR, TTable.size, decide_eq_true_eq, decide_eq_false_iff_not] at *; omega)))
    · intro h17
      have k17 := of_decide_eq_false h17; try simp only [List.length_map] at k17
      refine awp_skip ?_
      refine awp_seq ?_
      refine awp_region ?_
      refine sq_plain rfl rfl rfl (w_fldB rfl Try.underlying42 rfl Try.sizeOf40 (ev_tmp rfl)) ?_
      refine sq_plain rfl rfl rfl (w_loadB1 0 rfl (ev_tmp rfl) rfl Try.isAgg40 rfl) ?_
      refine sq_plain rfl rfl rfl (w_move rfl (ev_tmp rfl)) ?_
      refine sq_plain rfl rfl rfl (w_call rfl Try.call52 rfl (szIdxS_spec _ _ (by first | assumption | trivial) (by first | omega | ((try simp only [List.length_map, szR] at *); omega) | (have hc2 := hc; simp only [Bool.and_eq_true, Bool.or_eq_true, Bool.or_eq_false_iff, Bool.and_eq_false_iff, Bool.not_eq_true', Bool.not_eq_false', decide_eq_true_eq, decide_eq_false_iff_not, beq_iff_eq, bne_iff_ne] at hc2; omega)) (by first | omega | ((try simp only [List.length_map, szR] at *); omega) | (have hc2 := hc; simp only [Bool.and_eq_true, Bool.or_eq_true, Bool.or_eq_false_iff, Bool.and_eq_false_iff, Bool.not_eq_true', Bool.not_eq_false', decide_eq_true_eq, decide_eq_false_iff_not, beq_iff_eq, bne_iff_ne] at hc2; omega))) (evl_cons (ev_tmp rfl) (evl_cons (ev_tmp rfl) evl_nil))) ?_
      refine sq_plain rfl rfl rfl (w_assign rfl (ev_tmp rfl)) ?_
      refine sq_nil ?_
      refine awp_seq ?_
      refine awp_seq ?_
      refine awp_region ?_
      refine sq_plain rfl rfl rfl (w_move rfl (ev_tmp rfl)) ?_
      refine sq_plain rfl rfl rfl (w_lss rfl (ev_tmp rfl) ev_ci) ?_
      refine sq_nil ?_
      refine awp_cond (ev_tmp rfl) ?_ ?_
      · intro h23
        have k23 := of_decide_eq_true h23; try simp only [List.length_map] at k23
        refine awp_seq ?_
        refine awp_region ?_
        refine sq_plain rfl rfl rfl (w_assign rfl ev_ci) ?_
        refine sq_nil ?_
        refine awp_ret ?_
        exact retR rfl (rv_tmp' rfl (by exact congrArg AV.int (by simp only [szR, TTable.size, decide_eq_true_eq, decide_eq_false_iff_not] at *; omega)))
      · intro h23
        have k23 := of_decide_eq_false h23; try simp only [List.length_map] at k23
        refine awp_skip ?_
        refine awp_seq ?_
        refine awp_region ?_
        refine sq_plain rfl rfl rfl (w_move rfl (ev_tmp rfl)) ?_
        refine sq_plain rfl rfl rfl (w_assign rfl (ev_tmp rfl)) ?_
        refine sq_nil ?_
        refine awp_ret ?_
        exact retR rfl (rv_tmp' rfl (by exact congrArg AV.int (by simp only [szR, TTable.size, decide_eq_true_eq, decide_eq_false_iff_not] at *; omega)))
theorem toTable_spec (a : TTable) (hs : a.size ≤ 1048576) : FSpec Try.prog 23 [AV.agg a.cs] (AV.agg a.cs) := by
  unfold TTable.size at hs
  refine spec_of_awp Try.func23 rfl Try.ntmps23 rfl ?_
  refine awp_seq ?_
  refine awp_region ?_
  refine sq_box rfl rfl rfl rfl (ev_tmp rfl) ?_
  intro b1
  refine sq_alloc rfl rfl rfl rfl Try.zeroValue47 rfl ?_
  intro b2
  refine sq_nil ?_
  refine awp_seq ?_
  refine awp_region ?_
  refine sq_alloc rfl rfl rfl rfl Try.zeroValue47 rfl ?_
  intro b3
  refine sq_nil ?_
  refine awp_seq ?_
  refine awp_region ?_
  refine sq_plain rfl rfl rfl (w_fldB rfl Try.underlying42 rfl Try.sizeOf9 (ev_tmp rfl)) ?_
  refine sq_plain rfl rfl rfl (w_loadB1 2 rfl (ev_tmp rfl) rfl Try.isAgg9 rfl) ?_
  refine sq_plain rfl rfl rfl (w_fldB rfl Try.underlying47 rfl Try.sizeOf9 (ev_tmp rfl)) ?_
  refine sq_storeB1 0 rfl rfl rfl (ev_tmp rfl) (ev_tmp rfl) (as_str _) rfl Try.sizeOf9 rfl ?_
  refine sq_nil ?_
  refine awp_seq ?_
  refine awp_region ?_
  refine sq_plain rfl rfl rfl (w_fldB rfl Try.underlying42 rfl Try.sizeOf39 (ev_tmp rfl)) ?_
  refine sq_plain rfl rfl rfl (w_loadB1 2 rfl (ev_tmp rfl) rfl Try.isAgg39 rfl) ?_
  refine sq_plain rfl rfl rfl (w_call rfl Try.call56 rfl (toStringS_spec _ (by first | assumption | omega)) (evl_cons (ev_tmp rfl) evl_nil)) ?_
  refine sq_plain rfl rfl rfl (w_fldB rfl Try.underlying47 rfl Try.sizeOf39 (ev_tmp rfl)) ?_
  refine sq_storeB1 0 rfl rfl rfl (ev_tmp rfl) (ev_tmp rfl) (as_list _ _) rfl Try.sizeOf39 rfl ?_
  refine sq_nil ?_
  refine awp_seq ?_
  refine awp_region ?_
  refine sq_plain rfl rfl rfl (w_fldB rfl Try.underlying42 rfl Try.sizeOf40 (ev_tmp rfl)) ?_
  refine sq_plain rfl rfl rfl (w_loadB1 2 rfl (ev_tmp rfl) rfl Try.isAgg40 rfl) ?_
  refine sq_plain rfl rfl rfl (w_call rfl Try.call57 rfl (toIdxS_spec _ (by first | assumption | omega)) (evl_cons (ev_tmp rfl) evl_nil)) ?_
  refine sq_plain rfl rfl rfl (w_fldB rfl Try.underlying47 rfl Try.sizeOf45 (ev_tmp rfl)) ?_
  refine sq_storeB1 0 rfl rfl rfl (ev_tmp rfl) (ev_tmp rfl) (as_list _ _) rfl Try.sizeOf45 rfl ?_
  refine sq_nil ?_
  refine awp_seq ?_
  refine awp_region ?_
  refine sq_plain rfl rfl rfl (w_loadA 0 rfl (ev_tmp rfl) rfl Try.isAgg47 Try.sizeOf47 rfl) ?_
  refine sq_storeB0 1 rfl rfl rfl (ev_tmp rfl) (ev_tmp rfl) (as_agg _) rfl Try.sizeOf47 rfl ?_
  refine sq_nil ?_
  refine awp_ret ?_
  exact retR rfl (rv_cell (ys := _) 1 rfl rfl Try.isAgg47 Try.sizeOf47 rfl)
theorem eqTable_spec (a b : TTable) : FSpec Try.prog 25 [AV.agg a.cs, AV.agg b.cs] (AV.bool (decide (a = b))) := by
  refine spec_of_awp Try.func25 rfl Try.ntmps25 rfl ?_
  refine awp_seq ?_
  refine awp_region ?_
  refine sq_box rfl rfl rfl rfl (ev_tmp rfl) ?_
  intro b2
  refine sq_box rfl rfl rfl rfl (ev_tmp rfl) ?_
  intro b3
  refine sq_plain rfl rfl rfl (w_assign rfl ev_cb) ?_
  refine sq_nil ?_
  refine awp_seq ?_
  refine awp_seq ?_
  refine awp_region ?_
  refine sq_plain rfl rfl rfl (w_fldB rfl Try.underlying47 rfl Try.sizeOf9 (ev_tmp rfl)) ?_
  refine sq_plain rfl rfl rfl (w_loadB1 1 rfl (ev_tmp rfl) rfl Try.isAgg9 rfl) ?_
  refine sq_plain rfl rfl rfl (w_fldB rfl Try.underlying47 rfl Try.sizeOf9 (ev_tmp rfl)) ?_
  refine sq_plain rfl rfl rfl (w_loadB1 0 rfl (ev_tmp rfl) rfl Try.isAgg9 rfl) ?_
  refine sq_plain rfl rfl rfl (w_sneq rfl (ev_tmp rfl) (ev_tmp rfl)) ?_
  refine sq_nil ?_
  refine awp_cond (ev_tmp rfl) ?_ ?_
  · intro h9
    refine awp_seq ?_
    refine awp_region ?_
    refine sq_plain rfl rfl rfl (w_assign rfl ev_cb) ?_
    refine sq_nil ?_
    refine awp_ret ?_
    exact retR rfl (rv_tmp' rfl (by exact congrArg AV.bool (by cases a; cases b; simp_all)))
  · intro h9
    refine awp_skip ?_
    refine awp_seq ?_
    refine awp_seq ?_
    refine awp_region ?_
    refine sq_plain rfl rfl rfl (w_fldB rfl Try.underlying47 rfl Try.sizeOf39 (ev_tmp rfl)) ?_
    refine sq_plain rfl rfl rfl (w_loadB1 1 rfl (ev_tmp rfl) rfl Try.isAgg39 rfl) ?_
    refine sq_plain rfl rfl rfl (w_fldB rfl Try.underlying47 rfl Try.sizeOf39 (ev_tmp rfl)) ?_
    refine sq_plain rfl rfl rfl (w_loadB1 0 rfl (ev_tmp rfl) rfl Try.isAgg39 rfl) ?_
    refine sq_plain rfl rfl rfl (w_call rfl Try.call62 rfl (eqStringS_spec _ _) (evl_cons (ev_tmp rfl) (evl_cons (ev_tmp rfl) evl_nil))) ?_
    refine sq_plain rfl rfl rfl (w_not rfl (ev_tmp rfl)) ?_
    refine sq_nil ?_
    refine awp_cond (ev_tmp rfl) ?_ ?_
    · intro h15
      refine awp_seq ?_
      refine awp_region ?_
      refine sq_plain rfl rfl rfl (w_assign rfl ev_cb) ?_
      refine sq_nil ?_
      refine awp_ret ?_
      exact retR rfl (rv_tmp' rfl (by exact congrArg AV.bool (by cases a; cases b; simp_all)))
    · intro h15
      refine awp_skip ?_
      refine awp_seq ?_
      refine awp_seq ?_
      refine awp_region ?_
      refine sq_plain rfl rfl rfl (w_fldB rfl Try.underlying47 rfl Try.sizeOf45 (ev_tmp rfl)) ?_
      refine sq_plain rfl rfl rfl (w_loadB1 1 rfl (ev_tmp rfl) rfl Try.isAgg45 rfl) ?_
      refine sq_plain rfl rfl rfl (w_fldB rfl Try.underlying47 rfl Try.sizeOf45 (ev_tmp rfl)) ?_
      refine sq_plain rfl rfl rfl (w_loadB1 0 rfl (ev_tmp rfl) rfl Try.isAgg45 rfl) ?_
      refine sq_plain rfl rfl rfl (w_call rfl Try.call63 rfl (eqIdxS_spec _ _) (evl_cons (ev_tmp rfl) (evl_cons (ev_tmp rfl) evl_nil))) ?_
      refine sq_plain rfl rfl rfl (w_not rfl (ev_tmp rfl)) ?_
      refine sq_nil ?_
      refine awp_cond (ev_tmp rfl) ?_ ?_
      · intro h21
        refine awp_seq ?_
        refine awp_region ?_
        refine sq_plain rfl rfl rfl (w_assign rfl ev_cb) ?_
        refine sq_nil ?_
        refine awp_ret ?_
        exact retR rfl (rv_tmp' rfl (by exact congrArg AV.bool (by cases a; cases b; simp_all)))
      · intro h21
        refine awp_skip ?_
        refine awp_seq ?_
        refine awp_region ?_
        refine sq_plain rfl rfl rfl (w_assign rfl ev_cb) ?_
        refine sq_nil ?_
        refine awp_ret ?_
        exact retR rfl (rv_tmp' rfl (by exact congrArg AV.bool (by cases a; cases b; simp_all)))
theorem szFeedItemS_spec (l : List TFeedItem) (left : Int) (hok : (∀ x ∈ l, x.ok)) (h0 : 0 ≤ left) (h1 : left ≤ 1048576) : FSpec Try.prog 16 [AV.list 5 (l.map TFeedItem.cs), AV.int left] (AV.int (szR (sizeL TFeedItem.size l) left)) := by
  refine spec_of_awp Try.func16 rfl Try.ntmps16 rfl ?_
  refine awp_len (t := 0) rfl fun hl => ?_
  try simp only [List.length_map] at hl
  refine awp_seq ?_
  refine awp_region ?_
  refine sq_plain rfl rfl rfl (w_assign rfl ev_ci) ?_
  refine sq_nil ?_
  refine awp_seq ?_
  refine awp_region ?_
  refine sq_plain rfl rfl rfl (w_move rfl (ev_tmp rfl)) ?_
  refine sq_plain rfl rfl rfl (w_move rfl (ev_tmp rfl)) ?_
  refine sq_plain rfl rfl rfl (w_llen rfl Try.underlying32 (ev_tmp rfl)) ?_
  refine sq_plain rfl rfl rfl (w_subi rfl (ev_tmp rfl) (ev_tmp rfl) (by first | omega | ((try simp only [List.length_map, szR] at *); omega) | (have hc2 := hc; simp only [Bool.and_eq_true, Bool.or_eq_true, Bool.or_eq_false_iff, Bool.and_eq_false_iff, Bool.not_eq_true', Bool.not_eq_false', decide_eq_true_eq, decide_eq_false_iff_not, beq_iff_eq, bne_iff_ne] at hc2; omega))) ?_
  refine sq_plain rfl rfl rfl (w_assign rfl (ev_tmp rfl)) ?_
  refine sq_nil ?_
  refine awp_seq ?_
  refine awp_seq ?_
  refine awp_region ?_
  refine sq_plain rfl rfl rfl (w_move rfl (ev_tmp rfl)) ?_
  refine sq_plain rfl rfl rfl (w_lss rfl (ev_tmp rfl) ev_ci) ?_
  refine sq_nil ?_
  refine awp_cond (ev_tmp rfl) ?_ ?_
  · intro h11
    have k11 := of_decide_eq_true h11; try simp only [List.length_map] at k11
    refine awp_seq ?_
    refine awp_region ?_
    refine sq_plain rfl rfl rfl (w_assign rfl ev_ci) ?_
    refine sq_nil ?_
    refine awp_ret ?_
    exact retR rfl (rv_tmp' rfl (by exact congrArg AV.int (by simp only [szR, sizeL, List.length_map, decide_eq_true_eq, decide_eq_false_iff_not] at *; omega)))
  · intro h11
    have k11 := of_decide_eq_false h11; try simp only [List.length_map] at k11
    refine awp_skip ?_
    refine awp_seq ?_
    refine awp_seq ?_
    refine awp_region ?_
    refine sq_plain rfl rfl rfl (w_assign rfl ev_ci) ?_
    refine sq_nil ?_
    refine awp_block ?_
    refine awp_loop_i2 [(0, _)] _ (fun (i : Nat) (b : Int) => i ≤ l.length ∧ b = left - l.length - (((l.take i).map TFeedItem.size).sum : Nat) ∧ 0 ≤ b) (fun (i : Nat) (b : Int) => []) (fun (i : Nat) (b : Int) => [(1, AV.int b), (5, AV.int i)]) (fun (i : Nat) (b : Int) => l.length - i) (0) (left - ((l.map fun x => TFeedItem.cs x).length : Int)) ?_ (le_env ⟨rfl, rfl, rfl, trivial⟩) ?_
    · exact ⟨Nat.zero_le _, by simp, by simp only [List.length_map]; omega⟩
    intro i b hinv
    refine awp_seq ?_
    refine awp_seq ?_
    refine awp_region ?_
    refine sq_plain rfl rfl rfl (w_move rfl (ev_tmp rfl)) ?_
    refine sq_plain rfl rfl rfl (w_move rfl (ev_tmp rfl)) ?_
    refine sq_plain rfl rfl rfl (w_llen rfl Try.underlying32 (ev_tmp rfl)) ?_
    refine sq_plain rfl rfl rfl (w_lss rfl (ev_tmp rfl) (ev_tmp rfl)) ?_
    refine sq_nil ?_
    refine awp_cond (ev_tmp rfl) ?_ ?_
    · intro h15
      have k15 := of_decide_eq_true h15; try simp only [List.length_map] at k15
      have hlt : i < l.length := by omega
      obtain ⟨x, hx⟩ := get_some hlt
      have e2 := sum_le TFeedItem.size l i x hx
      have hokx := hok x (List.mem_of_getElem? hx)
      refine awp_skip ?_
      refine awp_seq ?_
      refine awp_block ?_
      refine awp_seq ?_
      refine awp_region ?_
      refine sq_plain rfl rfl rfl (w_move rfl (ev_tmp rfl)) ?_
      refine sq_plain rfl rfl rfl (w_move rfl (ev_tmp rfl)) ?_
      refine sq_plain rfl rfl rfl (w_idx rfl Try.underlying32 Try.sizeOf26 (ev_tmp rfl) (ev_tmp rfl) (by omega) (by simp only [Int.toNat_natCast, List.getElem?_map, hx, Option.map_some]; try rfl)) ?_
      refine sq_plain rfl rfl rfl (w_loadE rfl (ev_tmp rfl) Try.isAgg26 Try.sizeOf26) ?_
      refine sq_plain rfl rfl rfl (w_move rfl (ev_tmp rfl)) ?_
      refine sq_plain rfl rfl rfl (w_call rfl Try.call12 rfl (szFeedItem_spec _ _ (by assumption) (by first | omega | ((try simp only [List.length_map, szR] at *); omega) | (have hc2 := hc; simp only [Bool.and_eq_true, Bool.or_eq_true, Bool.or_eq_false_iff, Bool.and_eq_false_iff, Bool.not_eq_true', Bool.not_eq_false', decide_eq_true_eq, decide_eq_false_iff_not, beq_iff_eq, bne_iff_ne] at hc2; omega)) (by first | omega | ((try simp only [List.length_map, szR] at *); omega) | (have hc2 := hc; simp only [Bool.and_eq_true, Bool.or_eq_true, Bool.or_eq_false_iff, Bool.and_eq_false_iff, Bool.not_eq_true', Bool.not_eq_false', decide_eq_true_eq, decide_eq_false_iff_not, beq_iff_eq, bne_iff_ne] at hc2; omega))) (evl_cons (ev_tmp rfl) (evl_cons (ev_tmp rfl) evl_nil))) ?_
      refine sq_plain rfl rfl rfl (w_assign rfl (ev_tmp rfl)) ?_
      refine sq_nil ?_
      refine awp_seq ?_
      refine awp_region ?_
      refine sq_plain rfl rfl rfl (w_move rfl (ev_tmp rfl)) ?_
      refine sq_plain rfl rfl rfl (w_lss rfl (ev_tmp rfl) ev_ci) ?_
      refine sq_nil ?_
      refine awp_cond (ev_tmp rfl) ?_ ?_
      · intro h25
        have k25 := of_decide_eq_true h25; try simp only [List.length_map] at k25
        refine awp_seq ?_
        refine awp_region ?_
        refine sq_plain rfl rfl rfl (w_assign rfl ev_ci) ?_
        refine sq_nil ?_
        refine awp_ret ?_
        exact retR rfl (rv_tmp' rfl (by exact congrArg AV.int (by simp only [szR, sizeL, List.length_map, decide_eq_true_eq, decide_eq_false_iff_not] at *; omega)))
      · intro h25
        have k25 := of_decide_eq_false h25; try simp only [List.length_map] at k25
        refine awp_skip ?_
        refine awp_region ?_
        refine sq_plain rfl rfl rfl (w_move rfl (ev_tmp rfl)) ?_
        refine sq_plain rfl rfl rfl (w_addi rfl (ev_tmp rfl) ev_ci (by first | omega | ((try simp only [List.length_map, szR] at *); omega) | (have hc2 := hc; simp only [Bool.and_eq_true, Bool.or_eq_true, Bool.or_eq_false_iff, Bool.and_eq_false_iff, Bool.not_eq_true', Bool.not_eq_false', decide_eq_true_eq, decide_eq_false_iff_not, beq_iff_eq, bne_iff_ne] at hc2; omega))) ?_
        refine sq_plain rfl rfl rfl (w_assign rfl (ev_tmp rfl)) ?_
        refine sq_nil ?_
        refine round_end2 i b (i + 1) ((szR (TFeedItem.size x) b)) ?_ ?_ (le_env ⟨rfl, rfl, rfl, trivial⟩)
        · exact ⟨by omega, by have e1 := sum_take TFeedItem.size l i x hx; simp only [szR, decide_eq_false_iff_not] at *; omega, by omega⟩
        · omega
    · intro h15
      have k15 := of_decide_eq_false h15; try simp only [List.length_map] at k15
      have hge : l.length ≤ i := by omega
      have e3 : ((l.take i).map TFeedItem.size).sum = (l.map TFeedItem.size).sum := by rw [List.take_of_length_le hge]
      refine awp_exit ?_
      refine awp_seq ?_
      refine awp_region ?_
      refine sq_plain rfl rfl rfl (w_move rfl (ev_tmp rfl)) ?_
      refine sq_plain rfl rfl rfl (w_assign rfl (ev_tmp rfl)) ?_
      refine sq_nil ?_
      refine awp_ret ?_
      exact retR rfl (rv_tmp' rfl (by exact congrArg AV.int (by simp only [szR, sizeL, List.length_map, decide_eq_true_eq, decide_eq_false_iff_not] at *; omega)))
theorem toFeedItemS_spec (l : List TFeedItem) (hs : sizeL TFeedItem.size l ≤ 1048576) : FSpec Try.prog 18 [AV.list 5 (l.map TFeedItem.cs)] (AV.list 5 (l.map TFeedItem.cs)) := by
  have hsl : l.length ≤ 1048576 := Nat.le_trans sizeL_len hs
  refine spec_of_awp Try.func18 rfl Try.ntmps18 rfl ?_
  refine awp_seq ?_
  refine awp_region ?_
  refine sq_plain rfl rfl rfl (w_assign rfl (ev_cnil (sz := 5))) ?_
  refine sq_nil ?_
  refine awp_seq ?_
  refine awp_region ?_
  refine sq_plain rfl rfl rfl (w_move rfl (ev_tmp rfl)) ?_
  refine sq_plain rfl rfl rfl (w_llen rfl Try.underlying32 (ev_tmp rfl)) ?_
  refine sq_make (by' := 56) rfl rfl rfl rfl Try.underlying35 Try.type29 rfl rfl rfl rfl rfl rfl (ev_tmp rfl) (ev_tmp rfl) (by simp only [List.length_map]; omega) (by simp only [List.length_map]; omega) ?_
  intro v7
  refine sq_plain rfl rfl rfl (w_assign rfl (ev_tmp rfl)) ?_
  refine sq_nil ?_
  refine awp_seq ?_
  refine awp_seq ?_
  refine awp_region ?_
  refine sq_plain rfl rfl rfl (w_assign rfl ev_ci) ?_
  refine sq_nil ?_
  refine awp_block ?_
  refine awp_loop_i [(0, _), (2, _), (3, _)] _ (fun (i : Nat) => i ≤ l.length) (fun (i : Nat) => [.arr v7 29 5 ((l.take i).map TFeedItem.cs ++ List.replicate (l.length - i) [AV.int 0, AV.int 0, AV.str [], AV.str [], AV.bool false])]) (fun (i : Nat) => [(4, AV.int i)]) (fun (i : Nat) => l.length - i) (0) ?_ (le_eq (by simp only [List.length_map]; rfl) ⟨rfl, rfl, rfl, rfl, trivial⟩) ?_
  · exact Nat.zero_le _
  intro i hinv
  refine awp_seq ?_
  refine awp_seq ?_
  refine awp_region ?_
  refine sq_plain rfl rfl rfl (w_move rfl (ev_tmp rfl)) ?_
  refine sq_plain rfl rfl rfl (w_move rfl (ev_tmp rfl)) ?_
  refine sq_plain rfl rfl rfl (w_llen rfl Try.underlying32 (ev_tmp rfl)) ?_
  refine sq_plain rfl rfl rfl (w_lss rfl (ev_tmp rfl) (ev_tmp rfl)) ?_
  refine sq_nil ?_
  refine awp_cond (ev_tmp rfl) ?_ ?_
  · intro h11
    have k11 := of_decide_eq_true h11; try simp only [List.length_map] at k11
    have hlt : i < l.length := by omega
    obtain ⟨x, hx⟩ := get_some hlt
    have hsx : TFeedItem.size x ≤ 1048576 := Nat.le_trans (sizeL_get hx) hs
    refine awp_skip ?_
    refine awp_seq ?_
    refine awp_block ?_
    refine awp_region ?_
    refine sq_plain rfl rfl rfl (w_move rfl (ev_tmp rfl)) ?_
    refine sq_plain rfl rfl rfl (w_move rfl (ev_tmp rfl)) ?_
    refine sq_plain rfl rfl rfl (w_move rfl (ev_tmp rfl)) ?_
    refine sq_plain rfl rfl rfl (w_move rfl (ev_tmp rfl)) ?_
    refine sq_plain rfl rfl rfl (w_idx rfl Try.underlying32 Try.sizeOf26 (ev_tmp rfl) (ev_tmp rfl) (by omega) (by simp only [Int.toNat_natCast, List.getElem?_map, hx, Option.map_some]; try rfl)) ?_
    refine sq_plain rfl rfl rfl (w_loadE rfl (ev_tmp rfl) Try.isAgg26 Try.sizeOf26) ?_
    refine sq_plain rfl rfl rfl (w_call rfl Try.call14 rfl (toFeedItem_spec _ (by first | assumption | omega | (simp only [] at *; omega))) (evl_cons (ev_tmp rfl) evl_nil)) ?_
    refine sq_plain rfl rfl rfl (w_aidx 0 rfl Try.underlying35 Try.sizeOf29 (ev_tmp rfl) rfl (ev_tmp rfl) (by omega) (by rw [fill_len hinv]; omega)) ?_
    refine sq_storeA 0 rfl rfl rfl (ev_tmp rfl) (ev_tmp rfl) (as_agg _) rfl Try.sizeOf29 rfl (by rw [fill_len hinv]; omega) ?_
    refine sq_nil ?_
    refine awp_region ?_
    refine sq_plain rfl rfl rfl (w_move rfl (ev_tmp rfl)) ?_
    refine sq_plain rfl rfl rfl (w_addi rfl (ev_tmp rfl) ev_ci (by first | omega | ((try simp only [List.length_map, szR] at *); omega) | (have hc2 := hc; simp only [Bool.and_eq_true, Bool.or_eq_true, Bool.or_eq_false_iff, Bool.and_eq_false_iff, Bool.not_eq_true', Bool.not_eq_false', decide_eq_true_eq, decide_eq_false_iff_not, beq_iff_eq, bne_iff_ne] at hc2; omega))) ?_
    refine sq_plain rfl rfl rfl (w_assign rfl (ev_tmp rfl)) ?_
    refine sq_nil ?_
    refine round_end i (i + 1) ?_ ?_ (le_eq (by exact congrArg (fun z => [Own.arr v7 29 5 z]) (fill_step hx)) ⟨rfl, rfl, rfl, rfl, trivial⟩)
    · omega
    · omega
  · intro h11
    have k11 := of_decide_eq_false h11; try simp only [List.length_map] at k11
    have hge : l.length ≤ i := by omega
    rw [fill_done hge]
    refine awp_exit ?_
    refine awp_seq ?_
    refine awp_region ?_
    refine sq_plain rfl rfl rfl (w_move rfl (ev_tmp rfl)) ?_
    refine sq_plain rfl rfl rfl (w_assign rfl (ev_tmp rfl)) ?_
    refine sq_nil ?_
    refine awp_ret ?_
    refine ret_seal 0 2 rfl rfl ?_
    exact retR rfl (rv_tmp' rfl (by first | rfl | (refine congrArg AV.bool ?_; simp_all; done)))
theorem eqFeedItemS_spec (a b : List TFeedItem) : FSpec Try.prog 20 [AV.list 5 (a.map TFeedItem.cs), AV.list 5 (b.map TFeedItem.cs)] (AV.bool (decide (a = b))) := by
  refine spec_of_awp Try.func20 rfl Try.ntmps20 rfl ?_
  refine awp_len (t := 0) rfl fun hl => ?_
  try simp only [List.length_map] at hl
  refine awp_seq ?_
  refine awp_region ?_
  refine sq_plain rfl rfl rfl (w_assign rfl ev_cb) ?_
  refine sq_nil ?_
  refine awp_seq ?_
  refine awp_seq ?_
  refine awp_region ?_
  refine sq_plain rfl rfl rfl (w_move rfl (ev_tmp rfl)) ?_
  refine sq_plain rfl rfl rfl (w_llen rfl Try.underlying35 (ev_tmp rfl)) ?_
  refine sq_plain rfl rfl rfl (w_move rfl (ev_tmp rfl)) ?_
  refine sq_plain rfl rfl rfl (w_llen rfl Try.underlying35 (ev_tmp rfl)) ?_
  refine sq_plain rfl rfl rfl (w_neq rfl (ev_tmp rfl) (ev_tmp rfl)) ?_
  refine sq_nil ?_
  refine awp_cond (ev_tmp rfl) ?_ ?_
  · intro h10
    have k10 := ne_of_bne h10; try simp only [List.length_map] at k10
    have hab : a ≠ b := by intro hc; subst hc; exact k10 rfl
    refine awp_seq ?_
    refine awp_region ?_
    refine sq_plain rfl rfl rfl (w_assign rfl ev_cb) ?_
    refine sq_nil ?_
    refine awp_ret ?_
    exact retR rfl (rv_tmp' rfl (by exact congrArg AV.bool (by simp [hab])))
  · intro h10
    have k10 := eq_of_bne_false h10; try simp only [List.length_map] at k10
    have heq : a.length = b.length := by omega
    refine awp_skip ?_
    refine awp_seq ?_
    refine awp_seq ?_
    refine awp_region ?_
    refine sq_plain rfl rfl rfl (w_assign rfl ev_ci) ?_
    refine sq_nil ?_
    refine awp_block ?_
    refine awp_loop_i [(0, _), (1, _)] _ (fun (i : Nat) => i ≤ a.length ∧ a.take i = b.take i) (fun (i : Nat) => []) (fun (i : Nat) => [(5, AV.int i)]) (fun (i : Nat) => a.length - i) (0) ?_ (le_env ⟨rfl, rfl, rfl, trivial⟩) ?_
    · exact ⟨Nat.zero_le _, rfl⟩
    intro i hinv
    refine awp_seq ?_
    refine awp_seq ?_
    refine awp_region ?_
    refine sq_plain rfl rfl rfl (w_move rfl (ev_tmp rfl)) ?_
    refine sq_plain rfl rfl rfl (w_move rfl (ev_tmp rfl)) ?_
    refine sq_plain rfl rfl rfl (w_llen rfl Try.underlying35 (ev_tmp rfl)) ?_
    refine sq_plain rfl rfl rfl (w_lss rfl (ev_tmp rfl) (ev_tmp rfl)) ?_
    refine sq_nil ?_
    refine awp_cond (ev_tmp rfl) ?_ ?_
    · intro h14
      have k14 := of_decide_eq_true h14; try simp only [List.length_map] at k14
      have hlt : i < a.length := by omega
      obtain ⟨x, hx⟩ := get_some hlt
      obtain ⟨y, hy⟩ := get_some (show i < b.length by omega)
      refine awp_skip ?_
      refine awp_seq ?_
      refine awp_block ?_
      refine awp_seq ?_
      refine awp_region_any (by kernel_rfl) (by kernel_rfl) rfl ?_
      refine ch_plain rfl rfl (w_move rfl (ev_tmp rfl)) ?_
      refine ch_plain rfl rfl (w_move rfl (ev_tmp rfl)) ?_
      refine ch_plain rfl rfl (w_idx rfl Try.underlying35 Try.sizeOf29 (ev_tmp rfl) (ev_tmp rfl) (by omega) (by simp only [Int.toNat_natCast, List.getElem?_map, hx, Option.map_some]; try rfl)) ?_
      refine ch_plain rfl rfl (w_loadE rfl (ev_tmp rfl) Try.isAgg29 Try.sizeOf29) ?_
      refine ch_plain rfl rfl (w_move rfl (ev_tmp rfl)) ?_
      refine ch_plain rfl rfl (w_move rfl (ev_tmp rfl)) ?_
      refine ch_plain rfl rfl (w_idx rfl Try.underlying35 Try.sizeOf29 (ev_tmp rfl) (ev_tmp rfl) (by omega) (by simp only [Int.toNat_natCast, List.getElem?_map, hy, Option.map_some]; try rfl)) ?_
      refine ch_plain rfl rfl (w_loadE rfl (ev_tmp rfl) Try.isAgg29 Try.sizeOf29) ?_
      refine ch_plain rfl rfl (w_call rfl Try.call50 rfl (eqFeedItem_spec _ _) (evl_cons (ev_tmp rfl) (evl_cons (ev_tmp rfl) evl_nil))) ?_
      refine ch_plain rfl rfl (w_not rfl (ev_tmp rfl)) ?_
      refine ch_nil ?_
      refine awp_cond (ev_tmp rfl) ?_ ?_
      · intro h26
        have hab : a ≠ b := by intro hc; subst hc; rw [hx] at hy; injection hy with hy; subst hy; simp at h26
        refine awp_seq ?_
        refine awp_region ?_
        refine sq_plain rfl rfl rfl (w_assign rfl ev_cb) ?_
        refine sq_nil ?_
        refine awp_ret ?_
        exact retR rfl (rv_tmp' rfl (by exact congrArg AV.bool (by simp [hab])))
      · intro h26
        refine awp_skip ?_
        refine awp_region ?_
        refine sq_plain rfl rfl rfl (w_move rfl (ev_tmp rfl)) ?_
        refine sq_plain rfl rfl rfl (w_addi rfl (ev_tmp rfl) ev_ci (by first | omega | ((try simp only [List.length_map, szR] at *); omega) | (have hc2 := hc; simp only [Bool.and_eq_true, Bool.or_eq_true, Bool.or_eq_false_iff, Bool.and_eq_false_iff, Bool.not_eq_true', Bool.not_eq_false', decide_eq_true_eq, decide_eq_false_iff_not, beq_iff_eq, bne_iff_ne] at hc2; omega))) ?_
        refine sq_plain rfl rfl rfl (w_assign rfl (ev_tmp rfl)) ?_
        refine sq_nil ?_
        refine round_end i (i + 1) ?_ ?_ (le_env ⟨rfl, rfl, rfl, trivial⟩)
        · exact ⟨by omega, take_eq_succ hinv.2 hx (by rw [hy]; congr 1; simp_all)⟩
        · omega
    · intro h14
      have k14 := of_decide_eq_false h14; try simp only [List.length_map] at k14
      have hge : a.length ≤ i := by omega
      have hab : a = b := take_eq_of heq hinv.2 hge
      refine awp_exit ?_
      refine awp_seq ?_
      refine awp_region ?_
      refine sq_plain rfl rfl rfl (w_assign rfl ev_cb) ?_
      refine sq_nil ?_
      refine awp_ret ?_
      exact retR rfl (rv_tmp' rfl (by exact congrArg AV.bool (by simp [hab])))
end Go.Proofs.Ytkgnhobojeenoaa
