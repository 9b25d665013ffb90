/- Walks: the library's functions over slices, for each type of element. -/
import Derived.Test.YtkgnhobojeenoaaTypesM
import Derived.Test.YtkgnhobojeenoaaRows
set_option linter.unusedVariables false
set_option linter.unusedSimpArgs false
set_option maxRecDepth 100000
namespace Go.Proofs.Ytkgnhobojeenoaa
open Go Go.AV Go.M
attribute [local irreducible] OpW OpA OpS AWP FSpec ESpec RetOk RvDen Le Ev GuardIs
theorem indexFuncWrite_spec (l : List TWrite) (pre : TWrite → Prop) (f : TWrite → Bool) (hp : ∀ x ∈ l, pre x) : FSpec Try.prog 102 [AV.list 3 (l.map TWrite.cs), AV.fun1 Try.prog pre (fun a => AV.agg a.cs) (fun a => AV.bool (f a))] (AV.int (idxFrom f l 0)) := by
  refine spec_of_awp Try.func102 rfl Try.ntmps102 rfl ?_
  refine awp_len (t := 0) rfl fun hl => ?_
  try simp only [List.length_map] at hl
  refine awp_seq ?_
  refine awp_region ?_
  refine sq_plain rfl rfl rfl (w_assign rfl ev_ci) ?_
  refine sq_nil ?_
  refine awp_seq ?_
  refine awp_seq ?_
  refine awp_region ?_
  refine sq_plain rfl rfl rfl (w_move rfl (ev_tmp rfl)) ?_
  refine sq_plain rfl rfl rfl (w_llen rfl Try.underlying64 (ev_tmp rfl)) ?_
  refine sq_plain rfl rfl rfl (w_move rfl ev_ci) ?_
  refine sq_nil ?_
  refine awp_block ?_
  refine awp_loop_i [(0, _), (1, _), (7, _)] _ (fun (i : Nat) => i ≤ l.length ∧ idxFrom f l 0 = idxFrom f (l.drop i) i) (fun (i : Nat) => []) (fun (i : Nat) => [(8, AV.int i)]) (fun (i : Nat) => l.length - i) (0) ?_ (le_env ⟨rfl, rfl, rfl, rfl, trivial⟩) ?_
  · exact ⟨Nat.zero_le _, rfl⟩
  intro i hinv
  refine awp_seq ?_
  refine awp_region ?_
  refine sq_plain rfl rfl rfl (w_lss rfl (ev_tmp rfl) (ev_tmp rfl)) ?_
  refine sq_nil ?_
  refine awp_seq ?_
  refine awp_cond (ev_tmp rfl) ?_ ?_
  · intro h9
    have k9 := of_decide_eq_true h9; try simp only [List.length_map] at k9
    have hlt : i < l.length := by omega
    obtain ⟨x, hx⟩ := get_some hlt
    refine awp_skip ?_
    refine awp_seq ?_
    refine awp_block ?_
    refine awp_seq ?_
    refine awp_region ?_
    refine sq_plain rfl rfl rfl (w_move rfl (ev_tmp rfl)) ?_
    refine sq_plain rfl rfl rfl (w_assign rfl (ev_tmp rfl)) ?_
    refine sq_nil ?_
    refine awp_seq ?_
    refine awp_region ?_
    refine sq_plain rfl rfl rfl (w_move rfl (ev_tmp rfl)) ?_
    refine sq_plain rfl rfl rfl (w_move rfl (ev_tmp rfl)) ?_
    refine sq_plain rfl rfl rfl (w_move rfl (ev_tmp rfl)) ?_
    refine sq_plain rfl rfl rfl (w_idxm rfl Try.underlying64 Try.sizeOf105 (ev_tmp rfl) (ev_tmp rfl) hx (by first | omega | ((try simp only [List.length_map, szR] at *); omega) | (have hc2 := hc; simp only [Bool.and_eq_true, Bool.or_eq_true, Bool.or_eq_false_iff, Bool.and_eq_false_iff, Bool.not_eq_true', Bool.not_eq_false', decide_eq_true_eq, decide_eq_false_iff_not, beq_iff_eq, bne_iff_ne] at hc2; omega))) ?_
    refine sq_plain rfl rfl rfl (w_loadE rfl (ev_tmp rfl) Try.isAgg105 Try.sizeOf105) ?_
    refine sq_plain rfl rfl rfl (w_callv1 rfl (ev_tmp rfl) x (hp x (List.mem_of_getElem? hx)) (ev_tmp rfl)) ?_
    refine sq_nil ?_
    refine awp_cond (ev_tmp rfl) ?_ ?_
    · intro h16
      refine awp_seq ?_
      refine awp_region ?_
      refine sq_plain rfl rfl rfl (w_move rfl (ev_tmp rfl)) ?_
      refine sq_plain rfl rfl rfl (w_assign rfl (ev_tmp rfl)) ?_
      refine sq_nil ?_
      refine awp_ret ?_
      exact retR rfl (rv_tmp' rfl (by first | exact congrArg AV.int (by rw [hinv.2, drop_some hx, idxFrom, h16]; rfl) | exact congrArg AV.int (by rw [hinv.2, List.drop_eq_nil_of_le hge]; rfl)))
    · intro h16
      refine awp_skip ?_
      refine awp_region ?_
      refine sq_plain rfl rfl rfl (w_addi rfl (ev_tmp rfl) ev_ci (by first | omega | ((try simp only [List.length_map, szR] at *); omega) | (have hc2 := hc; simp only [Bool.and_eq_true, Bool.or_eq_true, Bool.or_eq_false_iff, Bool.and_eq_false_iff, Bool.not_eq_true', Bool.not_eq_false', decide_eq_true_eq, decide_eq_false_iff_not, beq_iff_eq, bne_iff_ne] at hc2; omega))) ?_
      refine sq_plain rfl rfl rfl (w_move rfl (ev_tmp rfl)) ?_
      refine sq_nil ?_
      refine round_end i (i + 1) ?_ ?_ (le_env ⟨rfl, rfl, rfl, rfl, trivial⟩)
      · exact ⟨by omega, by rw [hinv.2, drop_some hx, idxFrom, h16]; simp⟩
      · omega
  · intro h9
    have k9 := of_decide_eq_false h9; try simp only [List.length_map] at k9
    have hge : l.length ≤ i := by omega
    refine awp_exit ?_
    refine awp_seq ?_
    refine awp_region ?_
    refine sq_plain rfl rfl rfl (w_assign rfl ev_ci) ?_
    refine sq_nil ?_
    refine awp_ret ?_
    exact retR rfl (rv_tmp' rfl (by first | exact congrArg AV.int (by rw [hinv.2, drop_some hx, idxFrom, h16]; rfl) | exact congrArg AV.int (by rw [hinv.2, List.drop_eq_nil_of_le hge]; rfl)))
theorem containsFuncWrite_spec (l : List TWrite) (pre : TWrite → Prop) (f : TWrite → Bool) (hp : ∀ x ∈ l, pre x) : FSpec Try.prog 88 [AV.list 3 (l.map TWrite.cs), AV.fun1 Try.prog pre (fun a => AV.agg a.cs) (fun a => AV.bool (f a))] (AV.bool (l.any f)) := by
  refine spec_of_awp Try.func88 rfl Try.ntmps88 rfl ?_
  refine awp_seq ?_
  refine awp_region ?_
  refine sq_plain rfl rfl rfl (w_assign rfl ev_cb) ?_
  refine sq_nil ?_
  refine awp_seq ?_
  refine awp_region ?_
  refine sq_plain rfl rfl rfl (w_move rfl (ev_tmp rfl)) ?_
  refine sq_plain rfl rfl rfl (w_move rfl (ev_tmp rfl)) ?_
  refine sq_plain rfl rfl rfl (w_call rfl Try.call102 rfl (indexFuncWrite_spec _ _ _ (by first | (intros; trivial) | assumption | (intros; first | trivial | (simp_all; done)))) (evl_cons (ev_tmp rfl) (evl_cons (ev_tmp rfl) evl_nil))) ?_
  refine sq_plain rfl rfl rfl (w_geq rfl (ev_tmp rfl) ev_ci) ?_
  refine sq_plain rfl rfl rfl (w_assign rfl (ev_tmp rfl)) ?_
  refine sq_nil ?_
  refine awp_ret ?_
  exact retR rfl (rv_tmp' rfl (by exact congrArg AV.bool (idxFrom_any f l 0 (Int.le_refl 0))))
theorem indexFuncFeedItem_spec (l : List TFeedItem) (pre : TFeedItem → Prop) (f : TFeedItem → Bool) (hp : ∀ x ∈ l, pre x) : FSpec Try.prog 80 [AV.list 5 (l.map TFeedItem.cs), AV.fun1 Try.prog pre (fun a => AV.agg a.cs) (fun a => AV.bool (f a))] (AV.int (idxFrom f l 0)) := by
  refine spec_of_awp Try.func80 rfl Try.ntmps80 rfl ?_
  refine awp_len (t := 0) rfl fun hl => ?_
  try simp only [List.length_map] at hl
  refine awp_seq ?_
  refine awp_region ?_
  refine sq_plain rfl rfl rfl (w_assign rfl ev_ci) ?_
  refine sq_nil ?_
  refine awp_seq ?_
  refine awp_seq ?_
  refine awp_region ?_
  refine sq_plain rfl rfl rfl (w_move rfl (ev_tmp rfl)) ?_
  refine sq_plain rfl rfl rfl (w_llen rfl Try.underlying35 (ev_tmp rfl)) ?_
  refine sq_plain rfl rfl rfl (w_move rfl ev_ci) ?_
  refine sq_nil ?_
  refine awp_block ?_
  refine awp_loop_i [(0, _), (1, _), (7, _)] _ (fun (i : Nat) => i ≤ l.length ∧ idxFrom f l 0 = idxFrom f (l.drop i) i) (fun (i : Nat) => []) (fun (i : Nat) => [(8, AV.int i)]) (fun (i : Nat) => l.length - i) (0) ?_ (le_env ⟨rfl, rfl, rfl, rfl, trivial⟩) ?_
  · exact ⟨Nat.zero_le _, rfl⟩
  intro i hinv
  refine awp_seq ?_
  refine awp_region ?_
  refine sq_plain rfl rfl rfl (w_lss rfl (ev_tmp rfl) (ev_tmp rfl)) ?_
  refine sq_nil ?_
  refine awp_seq ?_
  refine awp_cond (ev_tmp rfl) ?_ ?_
  · intro h9
    have k9 := of_decide_eq_true h9; try simp only [List.length_map] at k9
    have hlt : i < l.length := by omega
    obtain ⟨x, hx⟩ := get_some hlt
    refine awp_skip ?_
    refine awp_seq ?_
    refine awp_block ?_
    refine awp_seq ?_
    refine awp_region ?_
    refine sq_plain rfl rfl rfl (w_move rfl (ev_tmp rfl)) ?_
    refine sq_plain rfl rfl rfl (w_assign rfl (ev_tmp rfl)) ?_
    refine sq_nil ?_
    refine awp_seq ?_
    refine awp_region ?_
    refine sq_plain rfl rfl rfl (w_move rfl (ev_tmp rfl)) ?_
    refine sq_plain rfl rfl rfl (w_move rfl (ev_tmp rfl)) ?_
    refine sq_plain rfl rfl rfl (w_move rfl (ev_tmp rfl)) ?_
    refine sq_plain rfl rfl rfl (w_idxm rfl Try.underlying35 Try.sizeOf29 (ev_tmp rfl) (ev_tmp rfl) hx (by first | omega | ((try simp only [List.length_map, szR] at *); omega) | (have hc2 := hc; simp only [Bool.and_eq_true, Bool.or_eq_true, Bool.or_eq_false_iff, Bool.and_eq_false_iff, Bool.not_eq_true', Bool.not_eq_false', decide_eq_true_eq, decide_eq_false_iff_not, beq_iff_eq, bne_iff_ne] at hc2; omega))) ?_
    refine sq_plain rfl rfl rfl (w_loadE rfl (ev_tmp rfl) Try.isAgg29 Try.sizeOf29) ?_
    refine sq_plain rfl rfl rfl (w_callv1 rfl (ev_tmp rfl) x (hp x (List.mem_of_getElem? hx)) (ev_tmp rfl)) ?_
    refine sq_nil ?_
    refine awp_cond (ev_tmp rfl) ?_ ?_
    · intro h16
      refine awp_seq ?_
      refine awp_region ?_
      refine sq_plain rfl rfl rfl (w_move rfl (ev_tmp rfl)) ?_
      refine sq_plain rfl rfl rfl (w_assign rfl (ev_tmp rfl)) ?_
      refine sq_nil ?_
      refine awp_ret ?_
      exact retR rfl (rv_tmp' rfl (by first | exact congrArg AV.int (by rw [hinv.2, drop_some hx, idxFrom, h16]; rfl) | exact congrArg AV.int (by rw [hinv.2, List.drop_eq_nil_of_le hge]; rfl)))
    · intro h16
      refine awp_skip ?_
      refine awp_region ?_
      refine sq_plain rfl rfl rfl (w_addi rfl (ev_tmp rfl) ev_ci (by first | omega | ((try simp only [List.length_map, szR] at *); omega) | (have hc2 := hc; simp only [Bool.and_eq_true, Bool.or_eq_true, Bool.or_eq_false_iff, Bool.and_eq_false_iff, Bool.not_eq_true', Bool.not_eq_false', decide_eq_true_eq, decide_eq_false_iff_not, beq_iff_eq, bne_iff_ne] at hc2; omega))) ?_
      refine sq_plain rfl rfl rfl (w_move rfl (ev_tmp rfl)) ?_
      refine sq_nil ?_
      refine round_end i (i + 1) ?_ ?_ (le_env ⟨rfl, rfl, rfl, rfl, trivial⟩)
      · exact ⟨by omega, by rw [hinv.2, drop_some hx, idxFrom, h16]; simp⟩
      · omega
  · intro h9
    have k9 := of_decide_eq_false h9; try simp only [List.length_map] at k9
    have hge : l.length ≤ i := by omega
    refine awp_exit ?_
    refine awp_seq ?_
    refine awp_region ?_
    refine sq_plain rfl rfl rfl (w_assign rfl ev_ci) ?_
    refine sq_nil ?_
    refine awp_ret ?_
    exact retR rfl (rv_tmp' rfl (by first | exact congrArg AV.int (by rw [hinv.2, drop_some hx, idxFrom, h16]; rfl) | exact congrArg AV.int (by rw [hinv.2, List.drop_eq_nil_of_le hge]; rfl)))
theorem containsFuncFeedItem_spec (l : List TFeedItem) (pre : TFeedItem → Prop) (f : TFeedItem → Bool) (hp : ∀ x ∈ l, pre x) : FSpec Try.prog 48 [AV.list 5 (l.map TFeedItem.cs), AV.fun1 Try.prog pre (fun a => AV.agg a.cs) (fun a => AV.bool (f a))] (AV.bool (l.any f)) := by
  refine spec_of_awp Try.func48 rfl Try.ntmps48 rfl ?_
  refine awp_seq ?_
  refine awp_region ?_
  refine sq_plain rfl rfl rfl (w_assign rfl ev_cb) ?_
  refine sq_nil ?_
  refine awp_seq ?_
  refine awp_region ?_
  refine sq_plain rfl rfl rfl (w_move rfl (ev_tmp rfl)) ?_
  refine sq_plain rfl rfl rfl (w_move rfl (ev_tmp rfl)) ?_
  refine sq_plain rfl rfl rfl (w_call rfl Try.call80 rfl (indexFuncFeedItem_spec _ _ _ (by first | (intros; trivial) | assumption | (intros; first | trivial | (simp_all; done)))) (evl_cons (ev_tmp rfl) (evl_cons (ev_tmp rfl) evl_nil))) ?_
  refine sq_plain rfl rfl rfl (w_geq rfl (ev_tmp rfl) ev_ci) ?_
  refine sq_plain rfl rfl rfl (w_assign rfl (ev_tmp rfl)) ?_
  refine sq_nil ?_
  refine awp_ret ?_
  exact retR rfl (rv_tmp' rfl (by exact congrArg AV.bool (idxFrom_any f l 0 (Int.le_refl 0))))
theorem indexFuncIdx_spec (l : List TIdx) (pre : TIdx → Prop) (f : TIdx → Bool) (hp : ∀ x ∈ l, pre x) : FSpec Try.prog 97 [AV.list 3 (l.map TIdx.cs), AV.fun1 Try.prog pre (fun a => AV.agg a.cs) (fun a => AV.bool (f a))] (AV.int (idxFrom f l 0)) := by
  refine spec_of_awp Try.func97 rfl Try.ntmps97 rfl ?_
  refine awp_len (t := 0) rfl fun hl => ?_
  try simp only [List.length_map] at hl
  refine awp_seq ?_
  refine awp_region ?_
  refine sq_plain rfl rfl rfl (w_assign rfl ev_ci) ?_
  refine sq_nil ?_
  refine awp_seq ?_
  refine awp_seq ?_
  refine awp_region ?_
  refine sq_plain rfl rfl rfl (w_move rfl (ev_tmp rfl)) ?_
  refine sq_plain rfl rfl rfl (w_llen rfl Try.underlying45 (ev_tmp rfl)) ?_
  refine sq_plain rfl rfl rfl (w_move rfl ev_ci) ?_
  refine sq_nil ?_
  refine awp_block ?_
  refine awp_loop_i [(0, _), (1, _), (7, _)] _ (fun (i : Nat) => i ≤ l.length ∧ idxFrom f l 0 = idxFrom f (l.drop i) i) (fun (i : Nat) => []) (fun (i : Nat) => [(8, AV.int i)]) (fun (i : Nat) => l.length - i) (0) ?_ (le_env ⟨rfl, rfl, rfl, rfl, trivial⟩) ?_
  · exact ⟨Nat.zero_le _, rfl⟩
  intro i hinv
  refine awp_seq ?_
  refine awp_region ?_
  refine sq_plain rfl rfl rfl (w_lss rfl (ev_tmp rfl) (ev_tmp rfl)) ?_
  refine sq_nil ?_
  refine awp_seq ?_
  refine awp_cond (ev_tmp rfl) ?_ ?_
  · intro h9
    have k9 := of_decide_eq_true h9; try simp only [List.length_map] at k9
    have hlt : i < l.length := by omega
    obtain ⟨x, hx⟩ := get_some hlt
    refine awp_skip ?_
    refine awp_seq ?_
    refine awp_block ?_
    refine awp_seq ?_
    refine awp_region ?_
    refine sq_plain rfl rfl rfl (w_move rfl (ev_tmp rfl)) ?_
    refine sq_plain rfl rfl rfl (w_assign rfl (ev_tmp rfl)) ?_
    refine sq_nil ?_
    refine awp_seq ?_
    refine awp_region ?_
    refine sq_plain rfl rfl rfl (w_move rfl (ev_tmp rfl)) ?_
    refine sq_plain rfl rfl rfl (w_move rfl (ev_tmp rfl)) ?_
    refine sq_plain rfl rfl rfl (w_move rfl (ev_tmp rfl)) ?_
    refine sq_plain rfl rfl rfl (w_idxm rfl Try.underlying45 Try.sizeOf55 (ev_tmp rfl) (ev_tmp rfl) hx (by first | omega | ((try simp only [List.length_map, szR] at *); omega) | (have hc2 := hc; simp only [Bool.and_eq_true, Bool.or_eq_true, Bool.or_eq_false_iff, Bool.and_eq_false_iff, Bool.not_eq_true', Bool.not_eq_false', decide_eq_true_eq, decide_eq_false_iff_not, beq_iff_eq, bne_iff_ne] at hc2; omega))) ?_
    refine sq_plain rfl rfl rfl (w_loadE rfl (ev_tmp rfl) Try.isAgg55 Try.sizeOf55) ?_
    refine sq_plain rfl rfl rfl (w_callv1 rfl (ev_tmp rfl) x (hp x (List.mem_of_getElem? hx)) (ev_tmp rfl)) ?_
    refine sq_nil ?_
    refine awp_cond (ev_tmp rfl) ?_ ?_
    · intro h16
      refine awp_seq ?_
      refine awp_region ?_
      refine sq_plain rfl rfl rfl (w_move rfl (ev_tmp rfl)) ?_
      refine sq_plain rfl rfl rfl (w_assign rfl (ev_tmp rfl)) ?_
      refine sq_nil ?_
      refine awp_ret ?_
      exact retR rfl (rv_tmp' rfl (by first | exact congrArg AV.int (by rw [hinv.2, drop_some hx, idxFrom, h16]; rfl) | exact congrArg AV.int (by rw [hinv.2, List.drop_eq_nil_of_le hge]; rfl)))
    · intro h16
      refine awp_skip ?_
      refine awp_region ?_
      refine sq_plain rfl rfl rfl (w_addi rfl (ev_tmp rfl) ev_ci (by first | omega | ((try simp only [List.length_map, szR] at *); omega) | (have hc2 := hc; simp only [Bool.and_eq_true, Bool.or_eq_true, Bool.or_eq_false_iff, Bool.and_eq_false_iff, Bool.not_eq_true', Bool.not_eq_false', decide_eq_true_eq, decide_eq_false_iff_not, beq_iff_eq, bne_iff_ne] at hc2; omega))) ?_
      refine sq_plain rfl rfl rfl (w_move rfl (ev_tmp rfl)) ?_
      refine sq_nil ?_
      refine round_end i (i + 1) ?_ ?_ (le_env ⟨rfl, rfl, rfl, rfl, trivial⟩)
      · exact ⟨by omega, by rw [hinv.2, drop_some hx, idxFrom, h16]; simp⟩
      · omega
  · intro h9
    have k9 := of_decide_eq_false h9; try simp only [List.length_map] at k9
    have hge : l.length ≤ i := by omega
    refine awp_exit ?_
    refine awp_seq ?_
    refine awp_region ?_
    refine sq_plain rfl rfl rfl (w_assign rfl ev_ci) ?_
    refine sq_nil ?_
    refine awp_ret ?_
    exact retR rfl (rv_tmp' rfl (by first | exact congrArg AV.int (by rw [hinv.2, drop_some hx, idxFrom, h16]; rfl) | exact congrArg AV.int (by rw [hinv.2, List.drop_eq_nil_of_le hge]; rfl)))
theorem indexString_spec (l : List Str) (v : Str) : FSpec Try.prog 65 [strs l, AV.str v] (AV.int (idxFrom (fun x => v == x) l 0)) := by
  refine spec_of_awp Try.func65 rfl Try.ntmps65 rfl ?_
  refine awp_len (t := 0) rfl fun hl => ?_
  try simp only [List.length_map] at hl
  refine awp_seq ?_
  refine awp_region ?_
  refine sq_plain rfl rfl rfl (w_assign rfl ev_ci) ?_
  refine sq_nil ?_
  refine awp_seq ?_
  refine awp_seq ?_
  refine awp_region ?_
  refine sq_plain rfl rfl rfl (w_move rfl (ev_tmp rfl)) ?_
  refine sq_plain rfl rfl rfl (w_llen rfl Try.underlying39 (ev_tmp rfl)) ?_
  refine sq_plain rfl rfl rfl (w_move rfl ev_ci) ?_
  refine sq_nil ?_
  refine awp_block ?_
  refine awp_loop_i [(0, _), (1, _), (7, _)] _ (fun (i : Nat) => i ≤ l.length ∧ idxFrom (fun x => v == x) l 0 = idxFrom (fun x => v == x) (l.drop i) i) (fun (i : Nat) => []) (fun (i : Nat) => [(8, AV.int i)]) (fun (i : Nat) => l.length - i) (0) ?_ (le_env ⟨rfl, rfl, rfl, rfl, trivial⟩) ?_
  · exact ⟨Nat.zero_le _, rfl⟩
  intro i hinv
  refine awp_seq ?_
  refine awp_region ?_
  refine sq_plain rfl rfl rfl (w_lss rfl (ev_tmp rfl) (ev_tmp rfl)) ?_
  refine sq_nil ?_
  refine awp_seq ?_
  refine awp_cond (ev_tmp rfl) ?_ ?_
  · intro h9
    have k9 := of_decide_eq_true h9; try simp only [List.length_map] at k9
    have hlt : i < l.length := by omega
    obtain ⟨x, hx⟩ := get_some hlt
    refine awp_skip ?_
    refine awp_seq ?_
    refine awp_block ?_
    refine awp_seq ?_
    refine awp_region ?_
    refine sq_plain rfl rfl rfl (w_move rfl (ev_tmp rfl)) ?_
    refine sq_plain rfl rfl rfl (w_assign rfl (ev_tmp rfl)) ?_
    refine sq_nil ?_
    refine awp_seq ?_
    refine awp_region ?_
    refine sq_plain rfl rfl rfl (w_move rfl (ev_tmp rfl)) ?_
    refine sq_plain rfl rfl rfl (w_move rfl (ev_tmp rfl)) ?_
    refine sq_plain rfl rfl rfl (w_move rfl (ev_tmp rfl)) ?_
    refine sq_plain rfl rfl rfl (w_idxm rfl Try.underlying39 Try.sizeOf9 (ev_tmp rfl) (ev_tmp rfl) hx (by first | omega | ((try simp only [List.length_map, szR] at *); omega) | (have hc2 := hc; simp only [Bool.and_eq_true, Bool.or_eq_true, Bool.or_eq_false_iff, Bool.and_eq_false_iff, Bool.not_eq_true', Bool.not_eq_false', decide_eq_true_eq, decide_eq_false_iff_not, beq_iff_eq, bne_iff_ne] at hc2; omega))) ?_
    refine sq_plain rfl rfl rfl (w_loadE1 rfl (ev_tmp rfl) Try.isAgg9 rfl) ?_
    refine sq_plain rfl rfl rfl (w_seql rfl (ev_tmp rfl) (ev_tmp rfl)) ?_
    refine sq_nil ?_
    refine awp_cond (ev_tmp rfl) ?_ ?_
    · intro h16
      refine awp_seq ?_
      refine awp_region ?_
      refine sq_plain rfl rfl rfl (w_move rfl (ev_tmp rfl)) ?_
      refine sq_plain rfl rfl rfl (w_assign rfl (ev_tmp rfl)) ?_
      refine sq_nil ?_
      refine awp_ret ?_
      exact retR rfl (rv_tmp' rfl (by first | exact congrArg AV.int (by rw [hinv.2, drop_some hx, idxFrom, h16]; rfl) | exact congrArg AV.int (by rw [hinv.2, List.drop_eq_nil_of_le hge]; rfl)))
    · intro h16
      refine awp_skip ?_
      refine awp_region ?_
      refine sq_plain rfl rfl rfl (w_addi rfl (ev_tmp rfl) ev_ci (by first | omega | ((try simp only [List.length_map, szR] at *); omega) | (have hc2 := hc; simp only [Bool.and_eq_true, Bool.or_eq_true, Bool.or_eq_false_iff, Bool.and_eq_false_iff, Bool.not_eq_true', Bool.not_eq_false', decide_eq_true_eq, decide_eq_false_iff_not, beq_iff_eq, bne_iff_ne] at hc2; omega))) ?_
      refine sq_plain rfl rfl rfl (w_move rfl (ev_tmp rfl)) ?_
      refine sq_nil ?_
      refine round_end i (i + 1) ?_ ?_ (le_env ⟨rfl, rfl, rfl, rfl, trivial⟩)
      · exact ⟨by omega, by rw [hinv.2, drop_some hx, idxFrom, h16]; simp⟩
      · omega
  · intro h9
    have k9 := of_decide_eq_false h9; try simp only [List.length_map] at k9
    have hge : l.length ≤ i := by omega
    refine awp_exit ?_
    refine awp_seq ?_
    refine awp_region ?_
    refine sq_plain rfl rfl rfl (w_assign rfl ev_ci) ?_
    refine sq_nil ?_
    refine awp_ret ?_
    exact retR rfl (rv_tmp' rfl (by first | exact congrArg AV.int (by rw [hinv.2, drop_some hx, idxFrom, h16]; rfl) | exact congrArg AV.int (by rw [hinv.2, List.drop_eq_nil_of_le hge]; rfl)))
theorem containsString_spec (l : List Str) (v : Str) : FSpec Try.prog 60 [strs l, AV.str v] (AV.bool (l.any fun x => v == x)) := by
  refine spec_of_awp Try.func60 rfl Try.ntmps60 rfl ?_
  refine awp_seq ?_
  refine awp_region ?_
  refine sq_plain rfl rfl rfl (w_assign rfl ev_cb) ?_
  refine sq_nil ?_
  refine awp_seq ?_
  refine awp_region ?_
  refine sq_plain rfl rfl rfl (w_move rfl (ev_tmp rfl)) ?_
  refine sq_plain rfl rfl rfl (w_move rfl (ev_tmp rfl)) ?_
  refine sq_plain rfl rfl rfl (w_call rfl Try.call65 rfl (indexString_spec _ _) (evl_cons (ev_tmp rfl) (evl_cons (ev_tmp rfl) evl_nil))) ?_
  refine sq_plain rfl rfl rfl (w_geq rfl (ev_tmp rfl) ev_ci) ?_
  refine sq_plain rfl rfl rfl (w_assign rfl (ev_tmp rfl)) ?_
  refine sq_nil ?_
  refine awp_ret ?_
  exact retR rfl (rv_tmp' rfl (by exact congrArg AV.bool (idxFrom_any (fun x => v == x) l 0 (Int.le_refl 0))))
end Go.Proofs.Ytkgnhobojeenoaa
