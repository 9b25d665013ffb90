/- Texts of the claim, part 4. -/
import Derived.Test.YtcglmbinmfkafaaZMergeFeed3

set_option linter.unusedVariables false
set_option linter.unusedSimpArgs false
set_option maxRecDepth 100000
set_option maxHeartbeats 1000000
namespace Go.Proofs.Ytcglmbinmfkafaa
open Go Go.AV Go.M
attribute [local irreducible] OpW OpA OpS AWP FSpec ESpec GSpec OpE RetOk RetOkG RvDen Le Ev GuardIs SrcIs Int.tmod Int.tdiv IntKind.wrap
theorem swapRange_own (v : Value) (l : List TFeedItem) (a b n : Nat) (g : AV) (ha : a + n ≤ l.length) (hb : b + n ≤ l.length) (hl : l.length ≤ 1048576) : GSpec Try.prog 66 [AV.is v, AV.int a, AV.int b, AV.int n, g] [.arr v 43 5 (l.map TFeedItem.cs)] (fun _ : Unit => True) (fun _ => [.arr v 43 5 ((swpR l a b n).map TFeedItem.cs)]) (fun _ => AV.tup []) := by
  refine gspec_of_awp Try.func66 rfl Try.ntmps66 rfl ?_
  refine awp_seq ?_
  refine awp_region ?_
  refine sq_plain rfl rfl rfl (w_assign rfl ev_ci) ?_
  refine sq_nil ?_
  refine awp_block ?_
  refine awp_loop_i [(0, _), (1, _), (2, _), (3, _)] _ (fun (i : Nat) => i ≤ n) (fun (i : Nat) => [.arr v 43 5 ((swpR l a b i).map TFeedItem.cs)]) (fun (i : Nat) => [(10, AV.int i)]) (fun (i : Nat) => n - i) (0) ?_ (le_eq (by rfl) ⟨rfl, rfl, rfl, rfl, rfl, trivial⟩) ?_
  · exact Nat.zero_le _
  intro i hinv
  have hsl := swpR_len l a b i
  refine awp_seq ?_
  refine awp_seq ?_
  refine awp_region ?_
  refine sq_plain rfl rfl rfl (w_move rfl (ev_tmp rfl)) ?_
  refine sq_plain rfl rfl rfl (w_move rfl (ev_tmp rfl)) ?_
  refine sq_plain rfl rfl rfl (w_lss rfl (ev_tmp rfl) (ev_tmp rfl)) ?_
  refine sq_nil ?_
  refine awp_cond (ev_tmp rfl) ?_ ?_
  · intro h13
    have k13 := of_decide_eq_true h13; try simp only [List.length_map] at k13
    obtain ⟨x, hx⟩ := get_some (show a + i < (swpR l a b i).length by omega)
    obtain ⟨y, hy⟩ := get_some (show b + i < (swpR l a b i).length by omega)
    refine awp_skip ?_
    refine awp_seq ?_
    refine awp_block ?_
    refine awp_region_tree [] 23 (.pure 0 (.pure 1 (.pure 2 (.pure 3 (.pure 4 (.pure 5 (.pure 6 (.pure 7 (.pure 8 (.pure 9 (.pure 10 (.pure 11 (.pure 14 (.pure 15 (.pure 16 (.pure 17 (.e2 12 (.e2 13 (.e1 18 (.e1 19 (.e1 20 (.e1 21 (.e1 22 .nil))))) 18 (.e2 13 (.e1 19 (.e1 20 (.e1 21 (.e1 22 .nil)))) 19 (.e1 13 (.e1 20 (.e1 21 (.e1 22 .nil)))))) 18 (.e2 12 (.e2 13 (.e1 19 (.e1 20 (.e1 21 (.e1 22 .nil)))) 19 (.e1 13 (.e1 20 (.e1 21 (.e1 22 .nil))))) 19 (.e1 12 (.e1 13 (.e1 20 (.e1 21 (.e1 22 .nil))))))))))))))))))))))) (by kernel_rfl) (by kernel_rfl) rfl invx_all ?_
    refine bt_plain rfl rfl rfl (fun ext => w_move rfl (ev_tmp rfl)) ?_
    refine bt_plain rfl rfl rfl (fun ext => w_move rfl (ev_tmp rfl)) ?_
    refine bt_plain rfl rfl rfl (fun ext => w_move rfl (ev_tmp rfl)) ?_
    refine bt_plain rfl rfl rfl (fun ext => w_addi rfl (ev_tmp rfl) (ev_tmp rfl) (by first | omega | ((try simp only [List.length_map, List.length_take, List.length_cons, List.length_nil, chunks_len, szR] at *); omega) | (have hc2 := hc; simp only [Bool.and_eq_true, Bool.or_eq_true, Bool.or_eq_false_iff, Bool.and_eq_false_iff, Bool.not_eq_true', Bool.not_eq_false', decide_eq_true_eq, decide_eq_false_iff_not, beq_iff_eq, bne_iff_ne, List.length_map, List.length_take] at hc2; omega))) ?_
    refine bt_plain rfl rfl rfl (fun ext => w_move rfl (ev_tmp rfl)) ?_
    refine bt_plain rfl rfl rfl (fun ext => w_move rfl (ev_tmp rfl)) ?_
    refine bt_plain rfl rfl rfl (fun ext => w_move rfl (ev_tmp rfl)) ?_
    refine bt_plain rfl rfl rfl (fun ext => w_addi rfl (ev_tmp rfl) (ev_tmp rfl) (by first | omega | ((try simp only [List.length_map, List.length_take, List.length_cons, List.length_nil, chunks_len, szR] at *); omega) | (have hc2 := hc; simp only [Bool.and_eq_true, Bool.or_eq_true, Bool.or_eq_false_iff, Bool.and_eq_false_iff, Bool.not_eq_true', Bool.not_eq_false', decide_eq_true_eq, decide_eq_false_iff_not, beq_iff_eq, bne_iff_ne, List.length_map, List.length_take] at hc2; omega))) ?_
    refine bt_plain rfl rfl rfl (fun ext => w_move rfl (ev_tmp rfl)) ?_
    refine bt_plain rfl rfl rfl (fun ext => w_move rfl (ev_tmp rfl)) ?_
    refine bt_plain rfl rfl rfl (fun ext => w_move rfl (ev_tmp rfl)) ?_
    refine bt_plain rfl rfl rfl (fun ext => w_addi rfl (ev_tmp rfl) (ev_tmp rfl) (by first | omega | ((try simp only [List.length_map, List.length_take, List.length_cons, List.length_nil, chunks_len, szR] at *); omega) | (have hc2 := hc; simp only [Bool.and_eq_true, Bool.or_eq_true, Bool.or_eq_false_iff, Bool.and_eq_false_iff, Bool.not_eq_true', Bool.not_eq_false', decide_eq_true_eq, decide_eq_false_iff_not, beq_iff_eq, bne_iff_ne, List.length_map, List.length_take] at hc2; omega))) ?_
    refine bt_plain rfl rfl rfl (fun ext => w_move rfl (ev_tmp rfl)) ?_
    refine bt_plain rfl rfl rfl (fun ext => w_move rfl (ev_tmp rfl)) ?_
    refine bt_plain rfl rfl rfl (fun ext => w_move rfl (ev_tmp rfl)) ?_
    refine bt_plain rfl rfl rfl (fun ext => w_addi rfl (ev_tmp rfl) (ev_tmp rfl) (by first | omega | ((try simp only [List.length_map, List.length_take, List.length_cons, List.length_nil, chunks_len, szR] at *); omega) | (have hc2 := hc; simp only [Bool.and_eq_true, Bool.or_eq_true, Bool.or_eq_false_iff, Bool.and_eq_false_iff, Bool.not_eq_true', Bool.not_eq_false', decide_eq_true_eq, decide_eq_false_iff_not, beq_iff_eq, bne_iff_ne, List.length_map, List.length_take] at hc2; omega))) ?_
    refine bt_e2 ?_ ?_
    · refine eff_s rfl rfl rfl (opE_pure (w_aidx 0 rfl Try.underlying24 Try.sizeOf43 (ev_tmp rfl) rfl (ev_tmp rfl) (by first | omega | ((try simp only [List.length_map, List.length_take, List.length_cons, List.length_nil, chunks_len, szR] at *); omega) | (have hc2 := hc; simp only [Bool.and_eq_true, Bool.or_eq_true, Bool.or_eq_false_iff, Bool.and_eq_false_iff, Bool.not_eq_true', Bool.not_eq_false', decide_eq_true_eq, decide_eq_false_iff_not, beq_iff_eq, bne_iff_ne, List.length_map, List.length_take] at hc2; omega)) (by first | omega | ((try simp only [List.length_map, List.length_take, List.length_cons, List.length_nil, chunks_len, szR] at *); omega) | (have hc2 := hc; simp only [Bool.and_eq_true, Bool.or_eq_true, Bool.or_eq_false_iff, Bool.and_eq_false_iff, Bool.not_eq_true', Bool.not_eq_false', decide_eq_true_eq, decide_eq_false_iff_not, beq_iff_eq, bne_iff_ne, List.length_map, List.length_take] at hc2; omega)))) (fun a _ => (by first | exact invx_mk rfl | exact invx_mk (List.append_assoc _ _ _) | exact invx_all)) ?_
      intro _ _
      refine bt_e2 ?_ ?_
      · refine eff_s rfl rfl rfl (opE_pure (w_loadX 0 rfl (ev_tmp rfl) rfl Try.isAgg43 Try.sizeOf43 (by rw [show ((b : Int) + (i : Int)).toNat = b + i by omega, List.getElem?_map, hy]; rfl) (by decide))) (fun a _ => (by first | exact invx_mk rfl | exact invx_mk (List.append_assoc _ _ _) | exact invx_all)) ?_
        intro _ _
        refine bt_e1 ?_
        refine eff_s rfl rfl rfl (opE_pure (w_aidx 0 rfl Try.underlying24 Try.sizeOf43 (ev_tmp rfl) rfl (ev_tmp rfl) (by first | omega | ((try simp only [List.length_map, List.length_take, List.length_cons, List.length_nil, chunks_len, szR] at *); omega) | (have hc2 := hc; simp only [Bool.and_eq_true, Bool.or_eq_true, Bool.or_eq_false_iff, Bool.and_eq_false_iff, Bool.not_eq_true', Bool.not_eq_false', decide_eq_true_eq, decide_eq_false_iff_not, beq_iff_eq, bne_iff_ne, List.length_map, List.length_take] at hc2; omega)) (by first | omega | ((try simp only [List.length_map, List.length_take, List.length_cons, List.length_nil, chunks_len, szR] at *); omega) | (have hc2 := hc; simp only [Bool.and_eq_true, Bool.or_eq_true, Bool.or_eq_false_iff, Bool.and_eq_false_iff, Bool.not_eq_true', Bool.not_eq_false', decide_eq_true_eq, decide_eq_false_iff_not, beq_iff_eq, bne_iff_ne, List.length_map, List.length_take] at hc2; omega)))) (fun a _ => (by first | exact invx_mk rfl | exact invx_mk (List.append_assoc _ _ _) | exact invx_all)) ?_
        intro _ _
        refine bt_e1 ?_
        refine eff_s rfl rfl rfl (opE_pure (w_loadX 0 rfl (ev_tmp rfl) rfl Try.isAgg43 Try.sizeOf43 (by rw [show ((a : Int) + (i : Int)).toNat = a + i by omega, List.getElem?_map, hx]; rfl) (by decide))) (fun a _ => (by first | exact invx_mk rfl | exact invx_mk (List.append_assoc _ _ _) | exact invx_all)) ?_
        intro _ _
        refine bt_e1 ?_
        refine eff_s rfl rfl rfl (opE_pure (w_aidx 0 rfl Try.underlying24 Try.sizeOf43 (ev_tmp rfl) rfl (ev_tmp rfl) (by first | omega | ((try simp only [List.length_map, List.length_take, List.length_cons, List.length_nil, chunks_len, szR] at *); omega) | (have hc2 := hc; simp only [Bool.and_eq_true, Bool.or_eq_true, Bool.or_eq_false_iff, Bool.and_eq_false_iff, Bool.not_eq_true', Bool.not_eq_false', decide_eq_true_eq, decide_eq_false_iff_not, beq_iff_eq, bne_iff_ne, List.length_map, List.length_take] at hc2; omega)) (by first | omega | ((try simp only [List.length_map, List.length_take, List.length_cons, List.length_nil, chunks_len, szR] at *); omega) | (have hc2 := hc; simp only [Bool.and_eq_true, Bool.or_eq_true, Bool.or_eq_false_iff, Bool.and_eq_false_iff, Bool.not_eq_true', Bool.not_eq_false', decide_eq_true_eq, decide_eq_false_iff_not, beq_iff_eq, bne_iff_ne, List.length_map, List.length_take] at hc2; omega)))) (fun a _ => (by first | exact invx_mk rfl | exact invx_mk (List.append_assoc _ _ _) | exact invx_all)) ?_
        intro _ _
        refine bt_e1 ?_
        refine eff_s0 rfl rfl rfl (opE_storeA 0 rfl rfl (ev_tmp rfl) (ev_tmp rfl) (as_agg _) rfl Try.sizeOf43 rfl (by first | omega | ((try simp only [List.length_map, List.length_take, List.length_cons, List.length_nil, chunks_len, szR] at *); omega) | (have hc2 := hc; simp only [Bool.and_eq_true, Bool.or_eq_true, Bool.or_eq_false_iff, Bool.and_eq_false_iff, Bool.not_eq_true', Bool.not_eq_false', decide_eq_true_eq, decide_eq_false_iff_not, beq_iff_eq, bne_iff_ne, List.length_map, List.length_take] at hc2; omega))) (fun a _ => (by first | exact invx_mk rfl | exact invx_mk (List.append_assoc _ _ _) | exact invx_all)) ?_
        intro _ _
        refine bt_e1 ?_
        refine eff_s rfl rfl rfl (opE_pure (w_aidx 0 rfl Try.underlying24 Try.sizeOf43 (ev_tmp rfl) rfl (ev_tmp rfl) (by omega) (by rw [List.length_set, List.length_map]; omega))) (fun a _ => (by first | exact invx_mk rfl | exact invx_mk (List.append_assoc _ _ _) | exact invx_all)) ?_
        intro _ _
        refine bt_nil ?_
        refine sq_storeA 0 rfl rfl rfl (ev_tmp rfl) (ev_tmp rfl) (as_agg _) rfl Try.sizeOf43 rfl (by simp only [List.length_set, List.length_map]; omega) ?_
        refine sq_nil ?_
        refine awp_region ?_
        refine sq_plain rfl rfl rfl (w_move rfl (ev_tmp rfl)) ?_
        refine sq_plain rfl rfl rfl (w_addi rfl (ev_tmp rfl) ev_ci (by first | omega | ((try simp only [List.length_map, List.length_take, List.length_cons, List.length_nil, chunks_len, szR] at *); omega) | (have hc2 := hc; simp only [Bool.and_eq_true, Bool.or_eq_true, Bool.or_eq_false_iff, Bool.and_eq_false_iff, Bool.not_eq_true', Bool.not_eq_false', decide_eq_true_eq, decide_eq_false_iff_not, beq_iff_eq, bne_iff_ne, List.length_map, List.length_take] at hc2; omega))) ?_
        refine sq_plain rfl rfl rfl (w_assign rfl (ev_tmp rfl)) ?_
        refine sq_nil ?_
        refine round_end i (i + 1) ?_ ?_ (le_eq (by (rw [show ((a : Int) + (i : Int)).toNat = a + i by omega, show ((b : Int) + (i : Int)).toNat = b + i by omega]; exact congrArg (fun z => [Own.arr v 43 5 z]) (by rw [← List.map_set, ← List.map_set, swp_eq hx hy]; rfl))) ⟨rfl, rfl, rfl, rfl, rfl, trivial⟩)
        · omega
        · omega
      · refine eff_s rfl rfl rfl (opE_pure (w_aidx 0 rfl Try.underlying24 Try.sizeOf43 (ev_tmp rfl) rfl (ev_tmp rfl) (by first | omega | ((try simp only [List.length_map, List.length_take, List.length_cons, List.length_nil, chunks_len, szR] at *); omega) | (have hc2 := hc; simp only [Bool.and_eq_true, Bool.or_eq_true, Bool.or_eq_false_iff, Bool.and_eq_false_iff, Bool.not_eq_true', Bool.not_eq_false', decide_eq_true_eq, decide_eq_false_iff_not, beq_iff_eq, bne_iff_ne, List.length_map, List.length_take] at hc2; omega)) (by first | omega | ((try simp only [List.length_map, List.length_take, List.length_cons, List.length_nil, chunks_len, szR] at *); omega) | (have hc2 := hc; simp only [Bool.and_eq_true, Bool.or_eq_true, Bool.or_eq_false_iff, Bool.and_eq_false_iff, Bool.not_eq_true', Bool.not_eq_false', decide_eq_true_eq, decide_eq_false_iff_not, beq_iff_eq, bne_iff_ne, List.length_map, List.length_take] at hc2; omega)))) (fun a _ => (by first | exact invx_mk rfl | exact invx_mk (List.append_assoc _ _ _) | exact invx_all)) ?_
        intro _ _
        refine bt_e2 ?_ ?_
        · refine eff_s rfl rfl rfl (opE_pure (w_loadX 0 rfl (ev_tmp rfl) rfl Try.isAgg43 Try.sizeOf43 (by rw [show ((b : Int) + (i : Int)).toNat = b + i by omega, List.getElem?_map, hy]; rfl) (by decide))) (fun a _ => (by first | exact invx_mk rfl | exact invx_mk (List.append_assoc _ _ _) | exact invx_all)) ?_
          intro _ _
          refine bt_e1 ?_
          refine eff_s rfl rfl rfl (opE_pure (w_loadX 0 rfl (ev_tmp rfl) rfl Try.isAgg43 Try.sizeOf43 (by rw [show ((a : Int) + (i : Int)).toNat = a + i by omega, List.getElem?_map, hx]; rfl) (by decide))) (fun a _ => (by first | exact invx_mk rfl | exact invx_mk (List.append_assoc _ _ _) | exact invx_all)) ?_
          intro _ _
          refine bt_e1 ?_
          refine eff_s rfl rfl rfl (opE_pure (w_aidx 0 rfl Try.underlying24 Try.sizeOf43 (ev_tmp rfl) rfl (ev_tmp rfl) (by first | omega | ((try simp only [List.length_map, List.length_take, List.length_cons, List.length_nil, chunks_len, szR] at *); omega) | (have hc2 := hc; simp only [Bool.and_eq_true, Bool.or_eq_true, Bool.or_eq_false_iff, Bool.and_eq_false_iff, Bool.not_eq_true', Bool.not_eq_false', decide_eq_true_eq, decide_eq_false_iff_not, beq_iff_eq, bne_iff_ne, List.length_map, List.length_take] at hc2; omega)) (by first | omega | ((try simp only [List.length_map, List.length_take, List.length_cons, List.length_nil, chunks_len, szR] at *); omega) | (have hc2 := hc; simp only [Bool.and_eq_true, Bool.or_eq_true, Bool.or_eq_false_iff, Bool.and_eq_false_iff, Bool.not_eq_true', Bool.not_eq_false', decide_eq_true_eq, decide_eq_false_iff_not, beq_iff_eq, bne_iff_ne, List.length_map, List.length_take] at hc2; omega)))) (fun a _ => (by first | exact invx_mk rfl | exact invx_mk (List.append_assoc _ _ _) | exact invx_all)) ?_
          intro _ _
          refine bt_e1 ?_
          refine eff_s0 rfl rfl rfl (opE_storeA 0 rfl rfl (ev_tmp rfl) (ev_tmp rfl) (as_agg _) rfl Try.sizeOf43 rfl (by first | omega | ((try simp only [List.length_map, List.length_take, List.length_cons, List.length_nil, chunks_len, szR] at *); omega) | (have hc2 := hc; simp only [Bool.and_eq_true, Bool.or_eq_true, Bool.or_eq_false_iff, Bool.and_eq_false_iff, Bool.not_eq_true', Bool.not_eq_false', decide_eq_true_eq, decide_eq_false_iff_not, beq_iff_eq, bne_iff_ne, List.length_map, List.length_take] at hc2; omega))) (fun a _ => (by first | exact invx_mk rfl | exact invx_mk (List.append_assoc _ _ _) | exact invx_all)) ?_
          intro _ _
          refine bt_e1 ?_
          refine eff_s rfl rfl rfl (opE_pure (w_aidx 0 rfl Try.underlying24 Try.sizeOf43 (ev_tmp rfl) rfl (ev_tmp rfl) (by omega) (by rw [List.length_set, List.length_map]; omega))) (fun a _ => (by first | exact invx_mk rfl | exact invx_mk (List.append_assoc _ _ _) | exact invx_all)) ?_
          intro _ _
          refine bt_nil ?_
          refine sq_storeA 0 rfl rfl rfl (ev_tmp rfl) (ev_tmp rfl) (as_agg _) rfl Try.sizeOf43 rfl (by simp only [List.length_set, List.length_map]; omega) ?_
          refine sq_nil ?_
          refine awp_region ?_
          refine sq_plain rfl rfl rfl (w_move rfl (ev_tmp rfl)) ?_
          refine sq_plain rfl rfl rfl (w_addi rfl (ev_tmp rfl) ev_ci (by first | omega | ((try simp only [List.length_map, List.length_take, List.length_cons, List.length_nil, chunks_len, szR] at *); omega) | (have hc2 := hc; simp only [Bool.and_eq_true, Bool.or_eq_true, Bool.or_eq_false_iff, Bool.and_eq_false_iff, Bool.not_eq_true', Bool.not_eq_false', decide_eq_true_eq, decide_eq_false_iff_not, beq_iff_eq, bne_iff_ne, List.length_map, List.length_take] at hc2; omega))) ?_
          refine sq_plain rfl rfl rfl (w_assign rfl (ev_tmp rfl)) ?_
          refine sq_nil ?_
          refine round_end i (i + 1) ?_ ?_ (le_eq (by (rw [show ((a : Int) + (i : Int)).toNat = a + i by omega, show ((b : Int) + (i : Int)).toNat = b + i by omega]; exact congrArg (fun z => [Own.arr v 43 5 z]) (by rw [← List.map_set, ← List.map_set, swp_eq hx hy]; rfl))) ⟨rfl, rfl, rfl, rfl, rfl, trivial⟩)
          · omega
          · omega
        · refine eff_s rfl rfl rfl (opE_pure (w_loadX 0 rfl (ev_tmp rfl) rfl Try.isAgg43 Try.sizeOf43 (by rw [show ((a : Int) + (i : Int)).toNat = a + i by omega, List.getElem?_map, hx]; rfl) (by decide))) (fun a _ => (by first | exact invx_mk rfl | exact invx_mk (List.append_assoc _ _ _) | exact invx_all)) ?_
          intro _ _
          refine bt_e1 ?_
          refine eff_s rfl rfl rfl (opE_pure (w_loadX 0 rfl (ev_tmp rfl) rfl Try.isAgg43 Try.sizeOf43 (by rw [show ((b : Int) + (i : Int)).toNat = b + i by omega, List.getElem?_map, hy]; rfl) (by decide))) (fun a _ => (by first | exact invx_mk rfl | exact invx_mk (List.append_assoc _ _ _) | exact invx_all)) ?_
          intro _ _
          refine bt_e1 ?_
          refine eff_s rfl rfl rfl (opE_pure (w_aidx 0 rfl Try.underlying24 Try.sizeOf43 (ev_tmp rfl) rfl (ev_tmp rfl) (by first | omega | ((try simp only [List.length_map, List.length_take, List.length_cons, List.length_nil, chunks_len, szR] at *); omega) | (have hc2 := hc; simp only [Bool.and_eq_true, Bool.or_eq_true, Bool.or_eq_false_iff, Bool.and_eq_false_iff, Bool.not_eq_true', Bool.not_eq_false', decide_eq_true_eq, decide_eq_false_iff_not, beq_iff_eq, bne_iff_ne, List.length_map, List.length_take] at hc2; omega)) (by first | omega | ((try simp only [List.length_map, List.length_take, List.length_cons, List.length_nil, chunks_len, szR] at *); omega) | (have hc2 := hc; simp only [Bool.and_eq_true, Bool.or_eq_true, Bool.or_eq_false_iff, Bool.and_eq_false_iff, Bool.not_eq_true', Bool.not_eq_false', decide_eq_true_eq, decide_eq_false_iff_not, beq_iff_eq, bne_iff_ne, List.length_map, List.length_take] at hc2; omega)))) (fun a _ => (by first | exact invx_mk rfl | exact invx_mk (List.append_assoc _ _ _) | exact invx_all)) ?_
          intro _ _
          refine bt_e1 ?_
          refine eff_s0 rfl rfl rfl (opE_storeA 0 rfl rfl (ev_tmp rfl) (ev_tmp rfl) (as_agg _) rfl Try.sizeOf43 rfl (by first | omega | ((try simp only [List.length_map, List.length_take, List.length_cons, List.length_nil, chunks_len, szR] at *); omega) | (have hc2 := hc; simp only [Bool.and_eq_true, Bool.or_eq_true, Bool.or_eq_false_iff, Bool.and_eq_false_iff, Bool.not_eq_true', Bool.not_eq_false', decide_eq_true_eq, decide_eq_false_iff_not, beq_iff_eq, bne_iff_ne, List.length_map, List.length_take] at hc2; omega))) (fun a _ => (by first | exact invx_mk rfl | exact invx_mk (List.append_assoc _ _ _) | exact invx_all)) ?_
          intro _ _
          refine bt_e1 ?_
          refine eff_s rfl rfl rfl (opE_pure (w_aidx 0 rfl Try.underlying24 Try.sizeOf43 (ev_tmp rfl) rfl (ev_tmp rfl) (by omega) (by rw [List.length_set, List.length_map]; omega))) (fun a _ => (by first | exact invx_mk rfl | exact invx_mk (List.append_assoc _ _ _) | exact invx_all)) ?_
          intro _ _
          refine bt_nil ?_
          refine sq_storeA 0 rfl rfl rfl (ev_tmp rfl) (ev_tmp rfl) (as_agg _) rfl Try.sizeOf43 rfl (by simp only [List.length_set, List.length_map]; omega) ?_
          refine sq_nil ?_
          refine awp_region ?_
          refine sq_plain rfl rfl rfl (w_move rfl (ev_tmp rfl)) ?_
          refine sq_plain rfl rfl rfl (w_addi rfl (ev_tmp rfl) ev_ci (by first | omega | ((try simp only [List.length_map, List.length_take, List.length_cons, List.length_nil, chunks_len, szR] at *); omega) | (have hc2 := hc; simp only [Bool.and_eq_true, Bool.or_eq_true, Bool.or_eq_false_iff, Bool.and_eq_false_iff, Bool.not_eq_true', Bool.not_eq_false', decide_eq_true_eq, decide_eq_false_iff_not, beq_iff_eq, bne_iff_ne, List.length_map, List.length_take] at hc2; omega))) ?_
          refine sq_plain rfl rfl rfl (w_assign rfl (ev_tmp rfl)) ?_
          refine sq_nil ?_
          refine round_end i (i + 1) ?_ ?_ (le_eq (by (rw [show ((a : Int) + (i : Int)).toNat = a + i by omega, show ((b : Int) + (i : Int)).toNat = b + i by omega]; exact congrArg (fun z => [Own.arr v 43 5 z]) (by rw [← List.map_set, ← List.map_set, swp_eq hx hy]; rfl))) ⟨rfl, rfl, rfl, rfl, rfl, trivial⟩)
          · omega
          · omega
    · refine eff_s rfl rfl rfl (opE_pure (w_aidx 0 rfl Try.underlying24 Try.sizeOf43 (ev_tmp rfl) rfl (ev_tmp rfl) (by first | omega | ((try simp only [List.length_map, List.length_take, List.length_cons, List.length_nil, chunks_len, szR] at *); omega) | (have hc2 := hc; simp only [Bool.and_eq_true, Bool.or_eq_true, Bool.or_eq_false_iff, Bool.and_eq_false_iff, Bool.not_eq_true', Bool.not_eq_false', decide_eq_true_eq, decide_eq_false_iff_not, beq_iff_eq, bne_iff_ne, List.length_map, List.length_take] at hc2; omega)) (by first | omega | ((try simp only [List.length_map, List.length_take, List.length_cons, List.length_nil, chunks_len, szR] at *); omega) | (have hc2 := hc; simp only [Bool.and_eq_true, Bool.or_eq_true, Bool.or_eq_false_iff, Bool.and_eq_false_iff, Bool.not_eq_true', Bool.not_eq_false', decide_eq_true_eq, decide_eq_false_iff_not, beq_iff_eq, bne_iff_ne, List.length_map, List.length_take] at hc2; omega)))) (fun a _ => (by first | exact invx_mk rfl | exact invx_mk (List.append_assoc _ _ _) | exact invx_all)) ?_
      intro _ _
      refine bt_e2 ?_ ?_
      · refine eff_s rfl rfl rfl (opE_pure (w_aidx 0 rfl Try.underlying24 Try.sizeOf43 (ev_tmp rfl) rfl (ev_tmp rfl) (by first | omega | ((try simp only [List.length_map, List.length_take, List.length_cons, List.length_nil, chunks_len, szR] at *); omega) | (have hc2 := hc; simp only [Bool.and_eq_true, Bool.or_eq_true, Bool.or_eq_false_iff, Bool.and_eq_false_iff, Bool.not_eq_true', Bool.not_eq_false', decide_eq_true_eq, decide_eq_false_iff_not, beq_iff_eq, bne_iff_ne, List.length_map, List.length_take] at hc2; omega)) (by first | omega | ((try simp only [List.length_map, List.length_take, List.length_cons, List.length_nil, chunks_len, szR] at *); omega) | (have hc2 := hc; simp only [Bool.and_eq_true, Bool.or_eq_true, Bool.or_eq_false_iff, Bool.and_eq_false_iff, Bool.not_eq_true', Bool.not_eq_false', decide_eq_true_eq, decide_eq_false_iff_not, beq_iff_eq, bne_iff_ne, List.length_map, List.length_take] at hc2; omega)))) (fun a _ => (by first | exact invx_mk rfl | exact invx_mk (List.append_assoc _ _ _) | exact invx_all)) ?_
        intro _ _
        refine bt_e2 ?_ ?_
        · refine eff_s rfl rfl rfl (opE_pure (w_loadX 0 rfl (ev_tmp rfl) rfl Try.isAgg43 Try.sizeOf43 (by rw [show ((b : Int) + (i : Int)).toNat = b + i by omega, List.getElem?_map, hy]; rfl) (by decide))) (fun a _ => (by first | exact invx_mk rfl | exact invx_mk (List.append_assoc _ _ _) | exact invx_all)) ?_
          intro _ _
          refine bt_e1 ?_
          refine eff_s rfl rfl rfl (opE_pure (w_loadX 0 rfl (ev_tmp rfl) rfl Try.isAgg43 Try.sizeOf43 (by rw [show ((a : Int) + (i : Int)).toNat = a + i by omega, List.getElem?_map, hx]; rfl) (by decide))) (fun a _ => (by first | exact invx_mk rfl | exact invx_mk (List.append_assoc _ _ _) | exact invx_all)) ?_
          intro _ _
          refine bt_e1 ?_
          refine eff_s rfl rfl rfl (opE_pure (w_aidx 0 rfl Try.underlying24 Try.sizeOf43 (ev_tmp rfl) rfl (ev_tmp rfl) (by first | omega | ((try simp only [List.length_map, List.length_take, List.length_cons, List.length_nil, chunks_len, szR] at *); omega) | (have hc2 := hc; simp only [Bool.and_eq_true, Bool.or_eq_true, Bool.or_eq_false_iff, Bool.and_eq_false_iff, Bool.not_eq_true', Bool.not_eq_false', decide_eq_true_eq, decide_eq_false_iff_not, beq_iff_eq, bne_iff_ne, List.length_map, List.length_take] at hc2; omega)) (by first | omega | ((try simp only [List.length_map, List.length_take, List.length_cons, List.length_nil, chunks_len, szR] at *); omega) | (have hc2 := hc; simp only [Bool.and_eq_true, Bool.or_eq_true, Bool.or_eq_false_iff, Bool.and_eq_false_iff, Bool.not_eq_true', Bool.not_eq_false', decide_eq_true_eq, decide_eq_false_iff_not, beq_iff_eq, bne_iff_ne, List.length_map, List.length_take] at hc2; omega)))) (fun a _ => (by first | exact invx_mk rfl | exact invx_mk (List.append_assoc _ _ _) | exact invx_all)) ?_
          intro _ _
          refine bt_e1 ?_
          refine eff_s0 rfl rfl rfl (opE_storeA 0 rfl rfl (ev_tmp rfl) (ev_tmp rfl) (as_agg _) rfl Try.sizeOf43 rfl (by first | omega | ((try simp only [List.length_map, List.length_take, List.length_cons, List.length_nil, chunks_len, szR] at *); omega) | (have hc2 := hc; simp only [Bool.and_eq_true, Bool.or_eq_true, Bool.or_eq_false_iff, Bool.and_eq_false_iff, Bool.not_eq_true', Bool.not_eq_false', decide_eq_true_eq, decide_eq_false_iff_not, beq_iff_eq, bne_iff_ne, List.length_map, List.length_take] at hc2; omega))) (fun a _ => (by first | exact invx_mk rfl | exact invx_mk (List.append_assoc _ _ _) | exact invx_all)) ?_
          intro _ _
          refine bt_e1 ?_
          refine eff_s rfl rfl rfl (opE_pure (w_aidx 0 rfl Try.underlying24 Try.sizeOf43 (ev_tmp rfl) rfl (ev_tmp rfl) (by omega) (by rw [List.length_set, List.length_map]; omega))) (fun a _ => (by first | exact invx_mk rfl | exact invx_mk (List.append_assoc _ _ _) | exact invx_all)) ?_
          intro _ _
          refine bt_nil ?_
          refine sq_storeA 0 rfl rfl rfl (ev_tmp rfl) (ev_tmp rfl) (as_agg _) rfl Try.sizeOf43 rfl (by simp only [List.length_set, List.length_map]; omega) ?_
          refine sq_nil ?_
          refine awp_region ?_
          refine sq_plain rfl rfl rfl (w_move rfl (ev_tmp rfl)) ?_
          refine sq_plain rfl rfl rfl (w_addi rfl (ev_tmp rfl) ev_ci (by first | omega | ((try simp only [List.length_map, List.length_take, List.length_cons, List.length_nil, chunks_len, szR] at *); omega) | (have hc2 := hc; simp only [Bool.and_eq_true, Bool.or_eq_true, Bool.or_eq_false_iff, Bool.and_eq_false_iff, Bool.not_eq_true', Bool.not_eq_false', decide_eq_true_eq, decide_eq_false_iff_not, beq_iff_eq, bne_iff_ne, List.length_map, List.length_take] at hc2; omega))) ?_
          refine sq_plain rfl rfl rfl (w_assign rfl (ev_tmp rfl)) ?_
          refine sq_nil ?_
          refine round_end i (i + 1) ?_ ?_ (le_eq (by (rw [show ((a : Int) + (i : Int)).toNat = a + i by omega, show ((b : Int) + (i : Int)).toNat = b + i by omega]; exact congrArg (fun z => [Own.arr v 43 5 z]) (by rw [← List.map_set, ← List.map_set, swp_eq hx hy]; rfl))) ⟨rfl, rfl, rfl, rfl, rfl, trivial⟩)
          · omega
          · omega
        · refine eff_s rfl rfl rfl (opE_pure (w_loadX 0 rfl (ev_tmp rfl) rfl Try.isAgg43 Try.sizeOf43 (by rw [show ((a : Int) + (i : Int)).toNat = a + i by omega, List.getElem?_map, hx]; rfl) (by decide))) (fun a _ => (by first | exact invx_mk rfl | exact invx_mk (List.append_assoc _ _ _) | exact invx_all)) ?_
          intro _ _
          refine bt_e1 ?_
          refine eff_s rfl rfl rfl (opE_pure (w_loadX 0 rfl (ev_tmp rfl) rfl Try.isAgg43 Try.sizeOf43 (by rw [show ((b : Int) + (i : Int)).toNat = b + i by omega, List.getElem?_map, hy]; rfl) (by decide))) (fun a _ => (by first | exact invx_mk rfl | exact invx_mk (List.append_assoc _ _ _) | exact invx_all)) ?_
          intro _ _
          refine bt_e1 ?_
          refine eff_s rfl rfl rfl (opE_pure (w_aidx 0 rfl Try.underlying24 Try.sizeOf43 (ev_tmp rfl) rfl (ev_tmp rfl) (by first | omega | ((try simp only [List.length_map, List.length_take, List.length_cons, List.length_nil, chunks_len, szR] at *); omega) | (have hc2 := hc; simp only [Bool.and_eq_true, Bool.or_eq_true, Bool.or_eq_false_iff, Bool.and_eq_false_iff, Bool.not_eq_true', Bool.not_eq_false', decide_eq_true_eq, decide_eq_false_iff_not, beq_iff_eq, bne_iff_ne, List.length_map, List.length_take] at hc2; omega)) (by first | omega | ((try simp only [List.length_map, List.length_take, List.length_cons, List.length_nil, chunks_len, szR] at *); omega) | (have hc2 := hc; simp only [Bool.and_eq_true, Bool.or_eq_true, Bool.or_eq_false_iff, Bool.and_eq_false_iff, Bool.not_eq_true', Bool.not_eq_false', decide_eq_true_eq, decide_eq_false_iff_not, beq_iff_eq, bne_iff_ne, List.length_map, List.length_take] at hc2; omega)))) (fun a _ => (by first | exact invx_mk rfl | exact invx_mk (List.append_assoc _ _ _) | exact invx_all)) ?_
          intro _ _
          refine bt_e1 ?_
          refine eff_s0 rfl rfl rfl (opE_storeA 0 rfl rfl (ev_tmp rfl) (ev_tmp rfl) (as_agg _) rfl Try.sizeOf43 rfl (by first | omega | ((try simp only [List.length_map, List.length_take, List.length_cons, List.length_nil, chunks_len, szR] at *); omega) | (have hc2 := hc; simp only [Bool.and_eq_true, Bool.or_eq_true, Bool.or_eq_false_iff, Bool.and_eq_false_iff, Bool.not_eq_true', Bool.not_eq_false', decide_eq_true_eq, decide_eq_false_iff_not, beq_iff_eq, bne_iff_ne, List.length_map, List.length_take] at hc2; omega))) (fun a _ => (by first | exact invx_mk rfl | exact invx_mk (List.append_assoc _ _ _) | exact invx_all)) ?_
          intro _ _
          refine bt_e1 ?_
          refine eff_s rfl rfl rfl (opE_pure (w_aidx 0 rfl Try.underlying24 Try.sizeOf43 (ev_tmp rfl) rfl (ev_tmp rfl) (by omega) (by rw [List.length_set, List.length_map]; omega))) (fun a _ => (by first | exact invx_mk rfl | exact invx_mk (List.append_assoc _ _ _) | exact invx_all)) ?_
          intro _ _
          refine bt_nil ?_
          refine sq_storeA 0 rfl rfl rfl (ev_tmp rfl) (ev_tmp rfl) (as_agg _) rfl Try.sizeOf43 rfl (by simp only [List.length_set, List.length_map]; omega) ?_
          refine sq_nil ?_
          refine awp_region ?_
          refine sq_plain rfl rfl rfl (w_move rfl (ev_tmp rfl)) ?_
          refine sq_plain rfl rfl rfl (w_addi rfl (ev_tmp rfl) ev_ci (by first | omega | ((try simp only [List.length_map, List.length_take, List.length_cons, List.length_nil, chunks_len, szR] at *); omega) | (have hc2 := hc; simp only [Bool.and_eq_true, Bool.or_eq_true, Bool.or_eq_false_iff, Bool.and_eq_false_iff, Bool.not_eq_true', Bool.not_eq_false', decide_eq_true_eq, decide_eq_false_iff_not, beq_iff_eq, bne_iff_ne, List.length_map, List.length_take] at hc2; omega))) ?_
          refine sq_plain rfl rfl rfl (w_assign rfl (ev_tmp rfl)) ?_
          refine sq_nil ?_
          refine round_end i (i + 1) ?_ ?_ (le_eq (by (rw [show ((a : Int) + (i : Int)).toNat = a + i by omega, show ((b : Int) + (i : Int)).toNat = b + i by omega]; exact congrArg (fun z => [Own.arr v 43 5 z]) (by rw [← List.map_set, ← List.map_set, swp_eq hx hy]; rfl))) ⟨rfl, rfl, rfl, rfl, rfl, trivial⟩)
          · omega
          · omega
      · refine eff_s rfl rfl rfl (opE_pure (w_loadX 0 rfl (ev_tmp rfl) rfl Try.isAgg43 Try.sizeOf43 (by rw [show ((a : Int) + (i : Int)).toNat = a + i by omega, List.getElem?_map, hx]; rfl) (by decide))) (fun a _ => (by first | exact invx_mk rfl | exact invx_mk (List.append_assoc _ _ _) | exact invx_all)) ?_
        intro _ _
        refine bt_e1 ?_
        refine eff_s rfl rfl rfl (opE_pure (w_aidx 0 rfl Try.underlying24 Try.sizeOf43 (ev_tmp rfl) rfl (ev_tmp rfl) (by first | omega | ((try simp only [List.length_map, List.length_take, List.length_cons, List.length_nil, chunks_len, szR] at *); omega) | (have hc2 := hc; simp only [Bool.and_eq_true, Bool.or_eq_true, Bool.or_eq_false_iff, Bool.and_eq_false_iff, Bool.not_eq_true', Bool.not_eq_false', decide_eq_true_eq, decide_eq_false_iff_not, beq_iff_eq, bne_iff_ne, List.length_map, List.length_take] at hc2; omega)) (by first | omega | ((try simp only [List.length_map, List.length_take, List.length_cons, List.length_nil, chunks_len, szR] at *); omega) | (have hc2 := hc; simp only [Bool.and_eq_true, Bool.or_eq_true, Bool.or_eq_false_iff, Bool.and_eq_false_iff, Bool.not_eq_true', Bool.not_eq_false', decide_eq_true_eq, decide_eq_false_iff_not, beq_iff_eq, bne_iff_ne, List.length_map, List.length_take] at hc2; omega)))) (fun a _ => (by first | exact invx_mk rfl | exact invx_mk (List.append_assoc _ _ _) | exact invx_all)) ?_
        intro _ _
        refine bt_e1 ?_
        refine eff_s rfl rfl rfl (opE_pure (w_loadX 0 rfl (ev_tmp rfl) rfl Try.isAgg43 Try.sizeOf43 (by rw [show ((b : Int) + (i : Int)).toNat = b + i by omega, List.getElem?_map, hy]; rfl) (by decide))) (fun a _ => (by first | exact invx_mk rfl | exact invx_mk (List.append_assoc _ _ _) | exact invx_all)) ?_
        intro _ _
        refine bt_e1 ?_
        refine eff_s rfl rfl rfl (opE_pure (w_aidx 0 rfl Try.underlying24 Try.sizeOf43 (ev_tmp rfl) rfl (ev_tmp rfl) (by first | omega | ((try simp only [List.length_map, List.length_take, List.length_cons, List.length_nil, chunks_len, szR] at *); omega) | (have hc2 := hc; simp only [Bool.and_eq_true, Bool.or_eq_true, Bool.or_eq_false_iff, Bool.and_eq_false_iff, Bool.not_eq_true', Bool.not_eq_false', decide_eq_true_eq, decide_eq_false_iff_not, beq_iff_eq, bne_iff_ne, List.length_map, List.length_take] at hc2; omega)) (by first | omega | ((try simp only [List.length_map, List.length_take, List.length_cons, List.length_nil, chunks_len, szR] at *); omega) | (have hc2 := hc; simp only [Bool.and_eq_true, Bool.or_eq_true, Bool.or_eq_false_iff, Bool.and_eq_false_iff, Bool.not_eq_true', Bool.not_eq_false', decide_eq_true_eq, decide_eq_false_iff_not, beq_iff_eq, bne_iff_ne, List.length_map, List.length_take] at hc2; omega)))) (fun a _ => (by first | exact invx_mk rfl | exact invx_mk (List.append_assoc _ _ _) | exact invx_all)) ?_
        intro _ _
        refine bt_e1 ?_
        refine eff_s0 rfl rfl rfl (opE_storeA 0 rfl rfl (ev_tmp rfl) (ev_tmp rfl) (as_agg _) rfl Try.sizeOf43 rfl (by first | omega | ((try simp only [List.length_map, List.length_take, List.length_cons, List.length_nil, chunks_len, szR] at *); omega) | (have hc2 := hc; simp only [Bool.and_eq_true, Bool.or_eq_true, Bool.or_eq_false_iff, Bool.and_eq_false_iff, Bool.not_eq_true', Bool.not_eq_false', decide_eq_true_eq, decide_eq_false_iff_not, beq_iff_eq, bne_iff_ne, List.length_map, List.length_take] at hc2; omega))) (fun a _ => (by first | exact invx_mk rfl | exact invx_mk (List.append_assoc _ _ _) | exact invx_all)) ?_
        intro _ _
        refine bt_e1 ?_
        refine eff_s rfl rfl rfl (opE_pure (w_aidx 0 rfl Try.underlying24 Try.sizeOf43 (ev_tmp rfl) rfl (ev_tmp rfl) (by omega) (by rw [List.length_set, List.length_map]; omega))) (fun a _ => (by first | exact invx_mk rfl | exact invx_mk (List.append_assoc _ _ _) | exact invx_all)) ?_
        intro _ _
        refine bt_nil ?_
        refine sq_storeA 0 rfl rfl rfl (ev_tmp rfl) (ev_tmp rfl) (as_agg _) rfl Try.sizeOf43 rfl (by simp only [List.length_set, List.length_map]; omega) ?_
        refine sq_nil ?_
        refine awp_region ?_
        refine sq_plain rfl rfl rfl (w_move rfl (ev_tmp rfl)) ?_
        refine sq_plain rfl rfl rfl (w_addi rfl (ev_tmp rfl) ev_ci (by first | omega | ((try simp only [List.length_map, List.length_take, List.length_cons, List.length_nil, chunks_len, szR] at *); omega) | (have hc2 := hc; simp only [Bool.and_eq_true, Bool.or_eq_true, Bool.or_eq_false_iff, Bool.and_eq_false_iff, Bool.not_eq_true', Bool.not_eq_false', decide_eq_true_eq, decide_eq_false_iff_not, beq_iff_eq, bne_iff_ne, List.length_map, List.length_take] at hc2; omega))) ?_
        refine sq_plain rfl rfl rfl (w_assign rfl (ev_tmp rfl)) ?_
        refine sq_nil ?_
        refine round_end i (i + 1) ?_ ?_ (le_eq (by (rw [show ((a : Int) + (i : Int)).toNat = a + i by omega, show ((b : Int) + (i : Int)).toNat = b + i by omega]; exact congrArg (fun z => [Own.arr v 43 5 z]) (by rw [← List.map_set, ← List.map_set, swp_eq hx hy]; rfl))) ⟨rfl, rfl, rfl, rfl, rfl, trivial⟩)
        · omega
        · omega
  · intro h13
    have k13 := of_decide_eq_false h13; try simp only [List.length_map] at k13
    have hin : i = n := by omega
    subst hin
    refine awp_exit ?_
    exact retG [0] (()) (trivial) rfl (by rfl) (resN rfl (by decide) rv_nil)
theorem insertion_own (v : Value) (l : List TFeedItem) (a b : Nat) (f : TFeedItem → TFeedItem → Int) (hs : Swo fun x y => decide (f x y < 0)) (hb : b ≤ l.length) (hl : l.length ≤ 1048576) (ha : a ≤ l.length) :
    GSpec Try.prog 49 [AV.is v, AV.int a, AV.int b, AV.fun2 Try.prog (fun _ _ => True) (fun x : TFeedItem => AV.agg x.cs) (fun y : TFeedItem => AV.agg y.cs) (fun x y => AV.int (f x y))] [.arr v 43 5 (l.map TFeedItem.cs)]
      (fun l' : List TFeedItem => Shuf l l' a b ∧ SortedOn (fun x y => decide (f x y < 0)) l' a b) (fun l' => [.arr v 43 5 (l'.map TFeedItem.cs)]) (fun _ => AV.tup []) := by
  refine gspec_of_awp Try.func49 rfl Try.ntmps49 rfl ?_
  refine awp_seq ?_
  refine awp_region ?_
  refine sq_plain rfl rfl rfl (w_move rfl (ev_tmp rfl)) ?_
  refine sq_plain rfl rfl rfl (w_addi rfl (ev_tmp rfl) ev_ci (by first | omega | ((try simp only [List.length_map, List.length_take, List.length_cons, List.length_nil, chunks_len, szR] at *); omega) | (have hc2 := hc; simp only [Bool.and_eq_true, Bool.or_eq_true, Bool.or_eq_false_iff, Bool.and_eq_false_iff, Bool.not_eq_true', Bool.not_eq_false', decide_eq_true_eq, decide_eq_false_iff_not, beq_iff_eq, bne_iff_ne, List.length_map, List.length_take] at hc2; omega))) ?_
  refine sq_plain rfl rfl rfl (w_assign rfl (ev_tmp rfl)) ?_
  refine sq_nil ?_
  refine awp_block ?_
  refine awp_loop_i2 [(0, _), (1, _), (2, _), (3, _)] _ (fun (i : Nat) (l1 : List TFeedItem) => (Shuf l l1 a b ∧ SortedOn (fun x y => decide (f x y < 0)) l1 a i) ∧ a + 1 ≤ i ∧ (i ≤ b ∨ i = a + 1)) (fun (i : Nat) (l1 : List TFeedItem) => [.arr v 43 5 (l1.map TFeedItem.cs)]) (fun (i : Nat) (l1 : List TFeedItem) => [(8, AV.int i)]) (fun (i : Nat) (l1 : List TFeedItem) => b - i) (a + 1) (l) ?_ (le_eq (by rfl) ⟨rfl, rfl, rfl, rfl, rfl, trivial⟩) ?_
  · exact ⟨⟨Shuf.refl _ _ _, sorted_one _ _⟩, Nat.le_refl _, .inr rfl⟩
  intro i l1 hinv
  have hinv0 := hinv
  obtain ⟨⟨hsh1, hso1⟩, hi1, hi2⟩ := hinv
  have hln1 := hsh1.len
  refine awp_seq ?_
  refine awp_seq ?_
  refine awp_region ?_
  refine sq_plain rfl rfl rfl (w_move rfl (ev_tmp rfl)) ?_
  refine sq_plain rfl rfl rfl (w_move rfl (ev_tmp rfl)) ?_
  refine sq_plain rfl rfl rfl (w_lss rfl (ev_tmp rfl) (ev_tmp rfl)) ?_
  refine sq_nil ?_
  refine awp_cond (ev_tmp rfl) ?_ ?_
  · intro h14
    have k14 := of_decide_eq_true h14; try simp only [List.length_map] at k14
    refine awp_skip ?_
    refine awp_seq ?_
    refine awp_block ?_
    refine awp_seq ?_
    refine awp_region ?_
    refine sq_plain rfl rfl rfl (w_move rfl (ev_tmp rfl)) ?_
    refine sq_plain rfl rfl rfl (w_assign rfl (ev_tmp rfl)) ?_
    refine sq_nil ?_
    refine awp_block ?_
    refine awp_loop_i2 [(0, _), (1, _), (2, _), (3, _), (8, _), (12, _), (13, _), (14, _), (17, _)] _ (fun (j : Nat) (l2 : List TFeedItem) => (Shuf l l2 a b ∧ SinkOn (fun x y => decide (f x y < 0)) l2 a i j) ∧ a ≤ j ∧ j ≤ i) (fun (j : Nat) (l2 : List TFeedItem) => [.arr v 43 5 (l2.map TFeedItem.cs)]) (fun (j : Nat) (l2 : List TFeedItem) => [(9, AV.int j)]) (fun (j : Nat) (l2 : List TFeedItem) => j) (i) (l1) ?_ (le_eq (by rfl) ⟨rfl, rfl, rfl, rfl, rfl, rfl, rfl, rfl, rfl, rfl, trivial⟩) ?_
    · exact ⟨⟨hsh1, sink_start hso1⟩, by omega, Nat.le_refl _⟩
    intro j l2 hinv
    have hln2 := hinv.1.1.len
    obtain ⟨x, hx⟩ := get_some (show j < l2.length by omega)
    obtain ⟨y, hy⟩ := get_any l2 (j - 1)
    refine awp_seq ?_
    refine awp_seq ?_
    refine awp_region_any (by kernel_rfl) (by kernel_rfl) rfl ?_
    refine ch_plain rfl rfl (w_move rfl (ev_tmp rfl)) ?_
    refine ch_plain rfl rfl (w_move rfl (ev_tmp rfl)) ?_
    refine ch_plain rfl rfl (w_gtr rfl (ev_tmp rfl) (ev_tmp rfl)) ?_
    refine ch_plain rfl rfl (w_move rfl (ev_tmp rfl)) ?_
    refine ch_grd rfl (guard_t rfl rfl rfl) (fun hc => w_move rfl (ev_tmp rfl)) ?_
    refine ch_grd rfl (guard_t rfl rfl rfl) (fun hc => w_move rfl (ev_tmp rfl)) ?_
    refine ch_grd rfl (guard_t rfl rfl rfl) (fun hc => w_move rfl (ev_tmp rfl)) ?_
    refine ch_grd rfl (guard_t rfl rfl rfl) (fun hc => w_aidx 0 rfl Try.underlying24 Try.sizeOf43 (ev_whn rfl hc) rfl (ev_whn rfl hc) (by first | omega | ((try simp only [List.length_map, List.length_take, List.length_cons, List.length_nil, chunks_len, szR] at *); omega) | (have hc2 := hc; simp only [Bool.and_eq_true, Bool.or_eq_true, Bool.or_eq_false_iff, Bool.and_eq_false_iff, Bool.not_eq_true', Bool.not_eq_false', decide_eq_true_eq, decide_eq_false_iff_not, beq_iff_eq, bne_iff_ne, List.length_map, List.length_take] at hc2; omega)) (by first | omega | ((try simp only [List.length_map, List.length_take, List.length_cons, List.length_nil, chunks_len, szR] at *); omega) | (have hc2 := hc; simp only [Bool.and_eq_true, Bool.or_eq_true, Bool.or_eq_false_iff, Bool.and_eq_false_iff, Bool.not_eq_true', Bool.not_eq_false', decide_eq_true_eq, decide_eq_false_iff_not, beq_iff_eq, bne_iff_ne, List.length_map, List.length_take] at hc2; omega))) ?_
    refine ch_grd rfl (guard_t rfl rfl rfl) (fun hc => w_loadX 0 rfl (ev_whn rfl hc) rfl Try.isAgg43 Try.sizeOf43 (by rw [Int.toNat_natCast, List.getElem?_map, hx]; rfl) (by decide)) ?_
    refine ch_grd rfl (guard_t rfl rfl rfl) (fun hc => w_move rfl (ev_tmp rfl)) ?_
    refine ch_grd rfl (guard_t rfl rfl rfl) (fun hc => w_move rfl (ev_tmp rfl)) ?_
    refine ch_grd rfl (guard_t rfl rfl rfl) (fun hc => w_subi rfl (ev_whn rfl hc) ev_ci (by first | omega | ((try simp only [List.length_map, List.length_take, List.length_cons, List.length_nil, chunks_len, szR] at *); omega) | (have hc2 := hc; simp only [Bool.and_eq_true, Bool.or_eq_true, Bool.or_eq_false_iff, Bool.and_eq_false_iff, Bool.not_eq_true', Bool.not_eq_false', decide_eq_true_eq, decide_eq_false_iff_not, beq_iff_eq, bne_iff_ne, List.length_map, List.length_take] at hc2; omega))) ?_
    refine ch_grd rfl (guard_t rfl rfl rfl) (fun hc => w_aidx 0 rfl Try.underlying24 Try.sizeOf43 (ev_whn rfl hc) rfl (ev_whn rfl hc) (by first | omega | ((try simp only [List.length_map, List.length_take, List.length_cons, List.length_nil, chunks_len, szR] at *); omega) | (have hc2 := hc; simp only [Bool.and_eq_true, Bool.or_eq_true, Bool.or_eq_false_iff, Bool.and_eq_false_iff, Bool.not_eq_true', Bool.not_eq_false', decide_eq_true_eq, decide_eq_false_iff_not, beq_iff_eq, bne_iff_ne, List.length_map, List.length_take] at hc2; omega)) (by first | omega | ((try simp only [List.length_map, List.length_take, List.length_cons, List.length_nil, chunks_len, szR] at *); omega) | (have hc2 := hc; simp only [Bool.and_eq_true, Bool.or_eq_true, Bool.or_eq_false_iff, Bool.and_eq_false_iff, Bool.not_eq_true', Bool.not_eq_false', decide_eq_true_eq, decide_eq_false_iff_not, beq_iff_eq, bne_iff_ne, List.length_map, List.length_take] at hc2; omega))) ?_
    refine ch_grd rfl (guard_t rfl rfl rfl) (fun hc => w_loadX 0 rfl (ev_whn rfl hc) rfl Try.isAgg43 Try.sizeOf43 (by have hc2 : a < j := (by have h9 := of_decide_eq_true hc; omega); rw [show ((j : Int) - 1).toNat = j - 1 by omega, List.getElem?_map, hy (by omega)]; rfl) (by decide)) ?_
    refine ch_grd rfl (guard_t rfl rfl rfl) (fun hc => w_callv2 rfl (ev_whn rfl hc) x y trivial (ev_whn rfl hc) (ev_whn rfl hc)) ?_
    refine ch_grd rfl (guard_t rfl rfl rfl) (fun hc => w_lss rfl (ev_whn rfl hc) ev_ci) ?_
    refine ch_plain rfl rfl (w_and rfl (ev_tmp rfl) (evif_w rfl)) ?_
    refine ch_nil ?_
    refine awp_cond (ev_tmp rfl) ?_ ?_
    · intro h34
      simp only [Bool.and_eq_true] at h34
      obtain ⟨h34a, hlt⟩ := h34
      have haj := of_decide_eq_true h34a
      refine awp_skip ?_
      refine awp_seq ?_
      refine awp_block ?_
      refine awp_region_tree [] 17 (.pure 0 (.pure 1 (.pure 2 (.pure 3 (.pure 4 (.pure 5 (.pure 6 (.pure 7 (.pure 10 (.pure 11 (.e2 8 (.e2 9 (.e1 12 (.e1 13 (.e1 14 (.e1 15 (.e1 16 .nil))))) 12 (.e2 9 (.e1 13 (.e1 14 (.e1 15 (.e1 16 .nil)))) 13 (.e1 9 (.e1 14 (.e1 15 (.e1 16 .nil)))))) 12 (.e2 8 (.e2 9 (.e1 13 (.e1 14 (.e1 15 (.e1 16 .nil)))) 13 (.e1 9 (.e1 14 (.e1 15 (.e1 16 .nil))))) 13 (.e1 8 (.e1 9 (.e1 14 (.e1 15 (.e1 16 .nil))))))))))))))))) (by kernel_rfl) (by kernel_rfl) rfl invx_all ?_
      refine bt_plain rfl rfl rfl (fun ext => w_move rfl (ev_tmp rfl)) ?_
      refine bt_plain rfl rfl rfl (fun ext => w_move rfl (ev_tmp rfl)) ?_
      refine bt_plain rfl rfl rfl (fun ext => w_move rfl (ev_tmp rfl)) ?_
      refine bt_plain rfl rfl rfl (fun ext => w_move rfl (ev_tmp rfl)) ?_
      refine bt_plain rfl rfl rfl (fun ext => w_subi rfl (ev_tmp rfl) ev_ci (by first | omega | ((try simp only [List.length_map, List.length_take, List.length_cons, List.length_nil, chunks_len, szR] at *); omega) | (have hc2 := hc; simp only [Bool.and_eq_true, Bool.or_eq_true, Bool.or_eq_false_iff, Bool.and_eq_false_iff, Bool.not_eq_true', Bool.not_eq_false', decide_eq_true_eq, decide_eq_false_iff_not, beq_iff_eq, bne_iff_ne, List.length_map, List.length_take] at hc2; omega))) ?_
      refine bt_plain rfl rfl rfl (fun ext => w_move rfl (ev_tmp rfl)) ?_
      refine bt_plain rfl rfl rfl (fun ext => w_move rfl (ev_tmp rfl)) ?_
      refine bt_plain rfl rfl rfl (fun ext => w_subi rfl (ev_tmp rfl) ev_ci (by first | omega | ((try simp only [List.length_map, List.length_take, List.length_cons, List.length_nil, chunks_len, szR] at *); omega) | (have hc2 := hc; simp only [Bool.and_eq_true, Bool.or_eq_true, Bool.or_eq_false_iff, Bool.and_eq_false_iff, Bool.not_eq_true', Bool.not_eq_false', decide_eq_true_eq, decide_eq_false_iff_not, beq_iff_eq, bne_iff_ne, List.length_map, List.length_take] at hc2; omega))) ?_
      refine bt_plain rfl rfl rfl (fun ext => w_move rfl (ev_tmp rfl)) ?_
      refine bt_plain rfl rfl rfl (fun ext => w_move rfl (ev_tmp rfl)) ?_
      refine bt_e2 ?_ ?_
      · refine eff_s rfl rfl rfl (opE_pure (w_aidx 0 rfl Try.underlying24 Try.sizeOf43 (ev_tmp rfl) rfl (ev_tmp rfl) (by first | omega | ((try simp only [List.length_map, List.length_take, List.length_cons, List.length_nil, chunks_len, szR] at *); omega) | (have hc2 := hc; simp only [Bool.and_eq_true, Bool.or_eq_true, Bool.or_eq_false_iff, Bool.and_eq_false_iff, Bool.not_eq_true', Bool.not_eq_false', decide_eq_true_eq, decide_eq_false_iff_not, beq_iff_eq, bne_iff_ne, List.length_map, List.length_take] at hc2; omega)) (by first | omega | ((try simp only [List.length_map, List.length_take, List.length_cons, List.length_nil, chunks_len, szR] at *); omega) | (have hc2 := hc; simp only [Bool.and_eq_true, Bool.or_eq_true, Bool.or_eq_false_iff, Bool.and_eq_false_iff, Bool.not_eq_true', Bool.not_eq_false', decide_eq_true_eq, decide_eq_false_iff_not, beq_iff_eq, bne_iff_ne, List.length_map, List.length_take] at hc2; omega)))) (fun a _ => (by first | exact invx_mk rfl | exact invx_mk (List.append_assoc _ _ _) | exact invx_all)) ?_
        intro _ _
        refine bt_e2 ?_ ?_
        · refine eff_s rfl rfl rfl (opE_pure (w_loadX 0 rfl (ev_tmp rfl) rfl Try.isAgg43 Try.sizeOf43 (by rw [show ((j : Int) - 1).toNat = j - 1 by omega, List.getElem?_map, hy (by omega)]; rfl) (by decide))) (fun a _ => (by first | exact invx_mk rfl | exact invx_mk (List.append_assoc _ _ _) | exact invx_all)) ?_
          intro _ _
          refine bt_e1 ?_
          refine eff_s rfl rfl rfl (opE_pure (w_aidx 0 rfl Try.underlying24 Try.sizeOf43 (ev_tmp rfl) rfl (ev_tmp rfl) (by first | omega | ((try simp only [List.length_map, List.length_take, List.length_cons, List.length_nil, chunks_len, szR] at *); omega) | (have hc2 := hc; simp only [Bool.and_eq_true, Bool.or_eq_true, Bool.or_eq_false_iff, Bool.and_eq_false_iff, Bool.not_eq_true', Bool.not_eq_false', decide_eq_true_eq, decide_eq_false_iff_not, beq_iff_eq, bne_iff_ne, List.length_map, List.length_take] at hc2; omega)) (by first | omega | ((try simp only [List.length_map, List.length_take, List.length_cons, List.length_nil, chunks_len, szR] at *); omega) | (have hc2 := hc; simp only [Bool.and_eq_true, Bool.or_eq_true, Bool.or_eq_false_iff, Bool.and_eq_false_iff, Bool.not_eq_true', Bool.not_eq_false', decide_eq_true_eq, decide_eq_false_iff_not, beq_iff_eq, bne_iff_ne, List.length_map, List.length_take] at hc2; omega)))) (fun a _ => (by first | exact invx_mk rfl | exact invx_mk (List.append_assoc _ _ _) | exact invx_all)) ?_
          intro _ _
          refine bt_e1 ?_
          refine eff_s rfl rfl rfl (opE_pure (w_loadX 0 rfl (ev_tmp rfl) rfl Try.isAgg43 Try.sizeOf43 (by rw [Int.toNat_natCast, List.getElem?_map, hx]; rfl) (by decide))) (fun a _ => (by first | exact invx_mk rfl | exact invx_mk (List.append_assoc _ _ _) | exact invx_all)) ?_
          intro _ _
          refine bt_e1 ?_
          refine eff_s rfl rfl rfl (opE_pure (w_aidx 0 rfl Try.underlying24 Try.sizeOf43 (ev_tmp rfl) rfl (ev_tmp rfl) (by first | omega | ((try simp only [List.length_map, List.length_take, List.length_cons, List.length_nil, chunks_len, szR] at *); omega) | (have hc2 := hc; simp only [Bool.and_eq_true, Bool.or_eq_true, Bool.or_eq_false_iff, Bool.and_eq_false_iff, Bool.not_eq_true', Bool.not_eq_false', decide_eq_true_eq, decide_eq_false_iff_not, beq_iff_eq, bne_iff_ne, List.length_map, List.length_take] at hc2; omega)) (by first | omega | ((try simp only [List.length_map, List.length_take, List.length_cons, List.length_nil, chunks_len, szR] at *); omega) | (have hc2 := hc; simp only [Bool.and_eq_true, Bool.or_eq_true, Bool.or_eq_false_iff, Bool.and_eq_false_iff, Bool.not_eq_true', Bool.not_eq_false', decide_eq_true_eq, decide_eq_false_iff_not, beq_iff_eq, bne_iff_ne, List.length_map, List.length_take] at hc2; omega)))) (fun a _ => (by first | exact invx_mk rfl | exact invx_mk (List.append_assoc _ _ _) | exact invx_all)) ?_
          intro _ _
          refine bt_e1 ?_
          refine eff_s0 rfl rfl rfl (opE_storeA 0 rfl rfl (ev_tmp rfl) (ev_tmp rfl) (as_agg _) rfl Try.sizeOf43 rfl (by first | omega | ((try simp only [List.length_map, List.length_take, List.length_cons, List.length_nil, chunks_len, szR] at *); omega) | (have hc2 := hc; simp only [Bool.and_eq_true, Bool.or_eq_true, Bool.or_eq_false_iff, Bool.and_eq_false_iff, Bool.not_eq_true', Bool.not_eq_false', decide_eq_true_eq, decide_eq_false_iff_not, beq_iff_eq, bne_iff_ne, List.length_map, List.length_take] at hc2; omega))) (fun a _ => (by first | exact invx_mk rfl | exact invx_mk (List.append_assoc _ _ _) | exact invx_all)) ?_
          intro _ _
          refine bt_e1 ?_
          refine eff_s rfl rfl rfl (opE_pure (w_aidx 0 rfl Try.underlying24 Try.sizeOf43 (ev_tmp rfl) rfl (ev_tmp rfl) (by omega) (by rw [List.length_set, List.length_map]; omega))) (fun a _ => (by first | exact invx_mk rfl | exact invx_mk (List.append_assoc _ _ _) | exact invx_all)) ?_
          intro _ _
          refine bt_nil ?_
          refine sq_storeA 0 rfl rfl rfl (ev_tmp rfl) (ev_tmp rfl) (as_agg _) rfl Try.sizeOf43 rfl (by simp only [List.length_set, List.length_map]; omega) ?_
          refine sq_nil ?_
          refine awp_region ?_
          refine sq_plain rfl rfl rfl (w_move rfl (ev_tmp rfl)) ?_
          refine sq_plain rfl rfl rfl (w_subi rfl (ev_tmp rfl) ev_ci (by first | omega | ((try simp only [List.length_map, List.length_take, List.length_cons, List.length_nil, chunks_len, szR] at *); omega) | (have hc2 := hc; simp only [Bool.and_eq_true, Bool.or_eq_true, Bool.or_eq_false_iff, Bool.and_eq_false_iff, Bool.not_eq_true', Bool.not_eq_false', decide_eq_true_eq, decide_eq_false_iff_not, beq_iff_eq, bne_iff_ne, List.length_map, List.length_take] at hc2; omega))) ?_
          refine sq_plain rfl rfl rfl (w_assign rfl (ev_tmp rfl)) ?_
          refine sq_nil ?_
          refine round_end2 j l2 (j - 1) (swp l2 j (j - 1)) ?_ ?_ (le_eq (by (rw [show ((j : Int) - 1).toNat = j - 1 by omega, Int.toNat_natCast]; exact congrArg (fun z => [Own.arr v 43 5 z]) (by rw [← List.map_set, ← List.map_set, swp_eq hx (hy (by omega))]))) ⟨congrArg (fun z => some (AV.int z)) (by omega), rfl, rfl, rfl, rfl, rfl, rfl, rfl, rfl, rfl, trivial⟩)
          · exact ⟨⟨hinv.1.1.trans (shuf_swp (by omega) (by omega) (by omega) (by omega)), sink_step hs hinv.1.2 (by omega) (by omega) (hy (by omega)) hx hlt⟩, by omega, by omega⟩
          · omega
        · refine eff_s rfl rfl rfl (opE_pure (w_aidx 0 rfl Try.underlying24 Try.sizeOf43 (ev_tmp rfl) rfl (ev_tmp rfl) (by first | omega | ((try simp only [List.length_map, List.length_take, List.length_cons, List.length_nil, chunks_len, szR] at *); omega) | (have hc2 := hc; simp only [Bool.and_eq_true, Bool.or_eq_true, Bool.or_eq_false_iff, Bool.and_eq_false_iff, Bool.not_eq_true', Bool.not_eq_false', decide_eq_true_eq, decide_eq_false_iff_not, beq_iff_eq, bne_iff_ne, List.length_map, List.length_take] at hc2; omega)) (by first | omega | ((try simp only [List.length_map, List.length_take, List.length_cons, List.length_nil, chunks_len, szR] at *); omega) | (have hc2 := hc; simp only [Bool.and_eq_true, Bool.or_eq_true, Bool.or_eq_false_iff, Bool.and_eq_false_iff, Bool.not_eq_true', Bool.not_eq_false', decide_eq_true_eq, decide_eq_false_iff_not, beq_iff_eq, bne_iff_ne, List.length_map, List.length_take] at hc2; omega)))) (fun a _ => (by first | exact invx_mk rfl | exact invx_mk (List.append_assoc _ _ _) | exact invx_all)) ?_
          intro _ _
          refine bt_e2 ?_ ?_
          · refine eff_s rfl rfl rfl (opE_pure (w_loadX 0 rfl (ev_tmp rfl) rfl Try.isAgg43 Try.sizeOf43 (by rw [show ((j : Int) - 1).toNat = j - 1 by omega, List.getElem?_map, hy (by omega)]; rfl) (by decide))) (fun a _ => (by first | exact invx_mk rfl | exact invx_mk (List.append_assoc _ _ _) | exact invx_all)) ?_
            intro _ _
            refine bt_e1 ?_
            refine eff_s rfl rfl rfl (opE_pure (w_loadX 0 rfl (ev_tmp rfl) rfl Try.isAgg43 Try.sizeOf43 (by rw [Int.toNat_natCast, List.getElem?_map, hx]; rfl) (by decide))) (fun a _ => (by first | exact invx_mk rfl | exact invx_mk (List.append_assoc _ _ _) | exact invx_all)) ?_
            intro _ _
            refine bt_e1 ?_
            refine eff_s rfl rfl rfl (opE_pure (w_aidx 0 rfl Try.underlying24 Try.sizeOf43 (ev_tmp rfl) rfl (ev_tmp rfl) (by first | omega | ((try simp only [List.length_map, List.length_take, List.length_cons, List.length_nil, chunks_len, szR] at *); omega) | (have hc2 := hc; simp only [Bool.and_eq_true, Bool.or_eq_true, Bool.or_eq_false_iff, Bool.and_eq_false_iff, Bool.not_eq_true', Bool.not_eq_false', decide_eq_true_eq, decide_eq_false_iff_not, beq_iff_eq, bne_iff_ne, List.length_map, List.length_take] at hc2; omega)) (by first | omega | ((try simp only [List.length_map, List.length_take, List.length_cons, List.length_nil, chunks_len, szR] at *); omega) | (have hc2 := hc; simp only [Bool.and_eq_true, Bool.or_eq_true, Bool.or_eq_false_iff, Bool.and_eq_false_iff, Bool.not_eq_true', Bool.not_eq_false', decide_eq_true_eq, decide_eq_false_iff_not, beq_iff_eq, bne_iff_ne, List.length_map, List.length_take] at hc2; omega)))) (fun a _ => (by first | exact invx_mk rfl | exact invx_mk (List.append_assoc _ _ _) | exact invx_all)) ?_
            intro _ _
            refine bt_e1 ?_
            refine eff_s0 rfl rfl rfl (opE_storeA 0 rfl rfl (ev_tmp rfl) (ev_tmp rfl) (as_agg _) rfl Try.sizeOf43 rfl (by first | omega | ((try simp only [List.length_map, List.length_take, List.length_cons, List.length_nil, chunks_len, szR] at *); omega) | (have hc2 := hc; simp only [Bool.and_eq_true, Bool.or_eq_true, Bool.or_eq_false_iff, Bool.and_eq_false_iff, Bool.not_eq_true', Bool.not_eq_false', decide_eq_true_eq, decide_eq_false_iff_not, beq_iff_eq, bne_iff_ne, List.length_map, List.length_take] at hc2; omega))) (fun a _ => (by first | exact invx_mk rfl | exact invx_mk (List.append_assoc _ _ _) | exact invx_all)) ?_
            intro _ _
            refine bt_e1 ?_
            refine eff_s rfl rfl rfl (opE_pure (w_aidx 0 rfl Try.underlying24 Try.sizeOf43 (ev_tmp rfl) rfl (ev_tmp rfl) (by omega) (by rw [List.length_set, List.length_map]; omega))) (fun a _ => (by first | exact invx_mk rfl | exact invx_mk (List.append_assoc _ _ _) | exact invx_all)) ?_
            intro _ _
            refine bt_nil ?_
            refine sq_storeA 0 rfl rfl rfl (ev_tmp rfl) (ev_tmp rfl) (as_agg _) rfl Try.sizeOf43 rfl (by simp only [List.length_set, List.length_map]; omega) ?_
            refine sq_nil ?_
            refine awp_region ?_
            refine sq_plain rfl rfl rfl (w_move rfl (ev_tmp rfl)) ?_
            refine sq_plain rfl rfl rfl (w_subi rfl (ev_tmp rfl) ev_ci (by first | omega | ((try simp only [List.length_map, List.length_take, List.length_cons, List.length_nil, chunks_len, szR] at *); omega) | (have hc2 := hc; simp only [Bool.and_eq_true, Bool.or_eq_true, Bool.or_eq_false_iff, Bool.and_eq_false_iff, Bool.not_eq_true', Bool.not_eq_false', decide_eq_true_eq, decide_eq_false_iff_not, beq_iff_eq, bne_iff_ne, List.length_map, List.length_take] at hc2; omega))) ?_
            refine sq_plain rfl rfl rfl (w_assign rfl (ev_tmp rfl)) ?_
            refine sq_nil ?_
            refine round_end2 j l2 (j - 1) (swp l2 j (j - 1)) ?_ ?_ (le_eq (by (rw [show ((j : Int) - 1).toNat = j - 1 by omega, Int.toNat_natCast]; exact congrArg (fun z => [Own.arr v 43 5 z]) (by rw [← List.map_set, ← List.map_set, swp_eq hx (hy (by omega))]))) ⟨congrArg (fun z => some (AV.int z)) (by omega), rfl, rfl, rfl, rfl, rfl, rfl, rfl, rfl, rfl, trivial⟩)
            · exact ⟨⟨hinv.1.1.trans (shuf_swp (by omega) (by omega) (by omega) (by omega)), sink_step hs hinv.1.2 (by omega) (by omega) (hy (by omega)) hx hlt⟩, by omega, by omega⟩
            · omega
          · refine eff_s rfl rfl rfl (opE_pure (w_loadX 0 rfl (ev_tmp rfl) rfl Try.isAgg43 Try.sizeOf43 (by rw [Int.toNat_natCast, List.getElem?_map, hx]; rfl) (by decide))) (fun a _ => (by first | exact invx_mk rfl | exact invx_mk (List.append_assoc _ _ _) | exact invx_all)) ?_
            intro _ _
            refine bt_e1 ?_
            refine eff_s rfl rfl rfl (opE_pure (w_loadX 0 rfl (ev_tmp rfl) rfl Try.isAgg43 Try.sizeOf43 (by rw [show ((j : Int) - 1).toNat = j - 1 by omega, List.getElem?_map, hy (by omega)]; rfl) (by decide))) (fun a _ => (by first | exact invx_mk rfl | exact invx_mk (List.append_assoc _ _ _) | exact invx_all)) ?_
            intro _ _
            refine bt_e1 ?_
            refine eff_s rfl rfl rfl (opE_pure (w_aidx 0 rfl Try.underlying24 Try.sizeOf43 (ev_tmp rfl) rfl (ev_tmp rfl) (by first | omega | ((try simp only [List.length_map, List.length_take, List.length_cons, List.length_nil, chunks_len, szR] at *); omega) | (have hc2 := hc; simp only [Bool.and_eq_true, Bool.or_eq_true, Bool.or_eq_false_iff, Bool.and_eq_false_iff, Bool.not_eq_true', Bool.not_eq_false', decide_eq_true_eq, decide_eq_false_iff_not, beq_iff_eq, bne_iff_ne, List.length_map, List.length_take] at hc2; omega)) (by first | omega | ((try simp only [List.length_map, List.length_take, List.length_cons, List.length_nil, chunks_len, szR] at *); omega) | (have hc2 := hc; simp only [Bool.and_eq_true, Bool.or_eq_true, Bool.or_eq_false_iff, Bool.and_eq_false_iff, Bool.not_eq_true', Bool.not_eq_false', decide_eq_true_eq, decide_eq_false_iff_not, beq_iff_eq, bne_iff_ne, List.length_map, List.length_take] at hc2; omega)))) (fun a _ => (by first | exact invx_mk rfl | exact invx_mk (List.append_assoc _ _ _) | exact invx_all)) ?_
            intro _ _
            refine bt_e1 ?_
            refine eff_s0 rfl rfl rfl (opE_storeA 0 rfl rfl (ev_tmp rfl) (ev_tmp rfl) (as_agg _) rfl Try.sizeOf43 rfl (by first | omega | ((try simp only [List.length_map, List.length_take, List.length_cons, List.length_nil, chunks_len, szR] at *); omega) | (have hc2 := hc; simp only [Bool.and_eq_true, Bool.or_eq_true, Bool.or_eq_false_iff, Bool.and_eq_false_iff, Bool.not_eq_true', Bool.not_eq_false', decide_eq_true_eq, decide_eq_false_iff_not, beq_iff_eq, bne_iff_ne, List.length_map, List.length_take] at hc2; omega))) (fun a _ => (by first | exact invx_mk rfl | exact invx_mk (List.append_assoc _ _ _) | exact invx_all)) ?_
            intro _ _
            refine bt_e1 ?_
            refine eff_s rfl rfl rfl (opE_pure (w_aidx 0 rfl Try.underlying24 Try.sizeOf43 (ev_tmp rfl) rfl (ev_tmp rfl) (by omega) (by rw [List.length_set, List.length_map]; omega))) (fun a _ => (by first | exact invx_mk rfl | exact invx_mk (List.append_assoc _ _ _) | exact invx_all)) ?_
            intro _ _
            refine bt_nil ?_
            refine sq_storeA 0 rfl rfl rfl (ev_tmp rfl) (ev_tmp rfl) (as_agg _) rfl Try.sizeOf43 rfl (by simp only [List.length_set, List.length_map]; omega) ?_
            refine sq_nil ?_
            refine awp_region ?_
            refine sq_plain rfl rfl rfl (w_move rfl (ev_tmp rfl)) ?_
            refine sq_plain rfl rfl rfl (w_subi rfl (ev_tmp rfl) ev_ci (by first | omega | ((try simp only [List.length_map, List.length_take, List.length_cons, List.length_nil, chunks_len, szR] at *); omega) | (have hc2 := hc; simp only [Bool.and_eq_true, Bool.or_eq_true, Bool.or_eq_false_iff, Bool.and_eq_false_iff, Bool.not_eq_true', Bool.not_eq_false', decide_eq_true_eq, decide_eq_false_iff_not, beq_iff_eq, bne_iff_ne, List.length_map, List.length_take] at hc2; omega))) ?_
            refine sq_plain rfl rfl rfl (w_assign rfl (ev_tmp rfl)) ?_
            refine sq_nil ?_
            refine round_end2 j l2 (j - 1) (swp l2 j (j - 1)) ?_ ?_ (le_eq (by (rw [show ((j : Int) - 1).toNat = j - 1 by omega, Int.toNat_natCast]; exact congrArg (fun z => [Own.arr v 43 5 z]) (by rw [← List.map_set, ← List.map_set, swp_eq hx (hy (by omega))]))) ⟨congrArg (fun z => some (AV.int z)) (by omega), rfl, rfl, rfl, rfl, rfl, rfl, rfl, rfl, rfl, trivial⟩)
            · exact ⟨⟨hinv.1.1.trans (shuf_swp (by omega) (by omega) (by omega) (by omega)), sink_step hs hinv.1.2 (by omega) (by omega) (hy (by omega)) hx hlt⟩, by omega, by omega⟩
            · omega
      · refine eff_s rfl rfl rfl (opE_pure (w_aidx 0 rfl Try.underlying24 Try.sizeOf43 (ev_tmp rfl) rfl (ev_tmp rfl) (by first | omega | ((try simp only [List.length_map, List.length_take, List.length_cons, List.length_nil, chunks_len, szR] at *); omega) | (have hc2 := hc; simp only [Bool.and_eq_true, Bool.or_eq_true, Bool.or_eq_false_iff, Bool.and_eq_false_iff, Bool.not_eq_true', Bool.not_eq_false', decide_eq_true_eq, decide_eq_false_iff_not, beq_iff_eq, bne_iff_ne, List.length_map, List.length_take] at hc2; omega)) (by first | omega | ((try simp only [List.length_map, List.length_take, List.length_cons, List.length_nil, chunks_len, szR] at *); omega) | (have hc2 := hc; simp only [Bool.and_eq_true, Bool.or_eq_true, Bool.or_eq_false_iff, Bool.and_eq_false_iff, Bool.not_eq_true', Bool.not_eq_false', decide_eq_true_eq, decide_eq_false_iff_not, beq_iff_eq, bne_iff_ne, List.length_map, List.length_take] at hc2; omega)))) (fun a _ => (by first | exact invx_mk rfl | exact invx_mk (List.append_assoc _ _ _) | exact invx_all)) ?_
        intro _ _
        refine bt_e2 ?_ ?_
        · refine eff_s rfl rfl rfl (opE_pure (w_aidx 0 rfl Try.underlying24 Try.sizeOf43 (ev_tmp rfl) rfl (ev_tmp rfl) (by first | omega | ((try simp only [List.length_map, List.length_take, List.length_cons, List.length_nil, chunks_len, szR] at *); omega) | (have hc2 := hc; simp only [Bool.and_eq_true, Bool.or_eq_true, Bool.or_eq_false_iff, Bool.and_eq_false_iff, Bool.not_eq_true', Bool.not_eq_false', decide_eq_true_eq, decide_eq_false_iff_not, beq_iff_eq, bne_iff_ne, List.length_map, List.length_take] at hc2; omega)) (by first | omega | ((try simp only [List.length_map, List.length_take, List.length_cons, List.length_nil, chunks_len, szR] at *); omega) | (have hc2 := hc; simp only [Bool.and_eq_true, Bool.or_eq_true, Bool.or_eq_false_iff, Bool.and_eq_false_iff, Bool.not_eq_true', Bool.not_eq_false', decide_eq_true_eq, decide_eq_false_iff_not, beq_iff_eq, bne_iff_ne, List.length_map, List.length_take] at hc2; omega)))) (fun a _ => (by first | exact invx_mk rfl | exact invx_mk (List.append_assoc _ _ _) | exact invx_all)) ?_
          intro _ _
          refine bt_e2 ?_ ?_
          · refine eff_s rfl rfl rfl (opE_pure (w_loadX 0 rfl (ev_tmp rfl) rfl Try.isAgg43 Try.sizeOf43 (by rw [show ((j : Int) - 1).toNat = j - 1 by omega, List.getElem?_map, hy (by omega)]; rfl) (by decide))) (fun a _ => (by first | exact invx_mk rfl | exact invx_mk (List.append_assoc _ _ _) | exact invx_all)) ?_
            intro _ _
            refine bt_e1 ?_
            refine eff_s rfl rfl rfl (opE_pure (w_loadX 0 rfl (ev_tmp rfl) rfl Try.isAgg43 Try.sizeOf43 (by rw [Int.toNat_natCast, List.getElem?_map, hx]; rfl) (by decide))) (fun a _ => (by first | exact invx_mk rfl | exact invx_mk (List.append_assoc _ _ _) | exact invx_all)) ?_
            intro _ _
            refine bt_e1 ?_
            refine eff_s rfl rfl rfl (opE_pure (w_aidx 0 rfl Try.underlying24 Try.sizeOf43 (ev_tmp rfl) rfl (ev_tmp rfl) (by first | omega | ((try simp only [List.length_map, List.length_take, List.length_cons, List.length_nil, chunks_len, szR] at *); omega) | (have hc2 := hc; simp only [Bool.and_eq_true, Bool.or_eq_true, Bool.or_eq_false_iff, Bool.and_eq_false_iff, Bool.not_eq_true', Bool.not_eq_false', decide_eq_true_eq, decide_eq_false_iff_not, beq_iff_eq, bne_iff_ne, List.length_map, List.length_take] at hc2; omega)) (by first | omega | ((try simp only [List.length_map, List.length_take, List.length_cons, List.length_nil, chunks_len, szR] at *); omega) | (have hc2 := hc; simp only [Bool.and_eq_true, Bool.or_eq_true, Bool.or_eq_false_iff, Bool.and_eq_false_iff, Bool.not_eq_true', Bool.not_eq_false', decide_eq_true_eq, decide_eq_false_iff_not, beq_iff_eq, bne_iff_ne, List.length_map, List.length_take] at hc2; omega)))) (fun a _ => (by first | exact invx_mk rfl | exact invx_mk (List.append_assoc _ _ _) | exact invx_all)) ?_
            intro _ _
            refine bt_e1 ?_
            refine eff_s0 rfl rfl rfl (opE_storeA 0 rfl rfl (ev_tmp rfl) (ev_tmp rfl) (as_agg _) rfl Try.sizeOf43 rfl (by first | omega | ((try simp only [List.length_map, List.length_take, List.length_cons, List.length_nil, chunks_len, szR] at *); omega) | (have hc2 := hc; simp only [Bool.and_eq_true, Bool.or_eq_true, Bool.or_eq_false_iff, Bool.and_eq_false_iff, Bool.not_eq_true', Bool.not_eq_false', decide_eq_true_eq, decide_eq_false_iff_not, beq_iff_eq, bne_iff_ne, List.length_map, List.length_take] at hc2; omega))) (fun a _ => (by first | exact invx_mk rfl | exact invx_mk (List.append_assoc _ _ _) | exact invx_all)) ?_
            intro _ _
            refine bt_e1 ?_
            refine eff_s rfl rfl rfl (opE_pure (w_aidx 0 rfl Try.underlying24 Try.sizeOf43 (ev_tmp rfl) rfl (ev_tmp rfl) (by omega) (by rw [List.length_set, List.length_map]; omega))) (fun a _ => (by first | exact invx_mk rfl | exact invx_mk (List.append_assoc _ _ _) | exact invx_all)) ?_
            intro _ _
            refine bt_nil ?_
            refine sq_storeA 0 rfl rfl rfl (ev_tmp rfl) (ev_tmp rfl) (as_agg _) rfl Try.sizeOf43 rfl (by simp only [List.length_set, List.length_map]; omega) ?_
            refine sq_nil ?_
            refine awp_region ?_
            refine sq_plain rfl rfl rfl (w_move rfl (ev_tmp rfl)) ?_
            refine sq_plain rfl rfl rfl (w_subi rfl (ev_tmp rfl) ev_ci (by first | omega | ((try simp only [List.length_map, List.length_take, List.length_cons, List.length_nil, chunks_len, szR] at *); omega) | (have hc2 := hc; simp only [Bool.and_eq_true, Bool.or_eq_true, Bool.or_eq_false_iff, Bool.and_eq_false_iff, Bool.not_eq_true', Bool.not_eq_false', decide_eq_true_eq, decide_eq_false_iff_not, beq_iff_eq, bne_iff_ne, List.length_map, List.length_take] at hc2; omega))) ?_
            refine sq_plain rfl rfl rfl (w_assign rfl (ev_tmp rfl)) ?_
            refine sq_nil ?_
            refine round_end2 j l2 (j - 1) (swp l2 j (j - 1)) ?_ ?_ (le_eq (by (rw [show ((j : Int) - 1).toNat = j - 1 by omega, Int.toNat_natCast]; exact congrArg (fun z => [Own.arr v 43 5 z]) (by rw [← List.map_set, ← List.map_set, swp_eq hx (hy (by omega))]))) ⟨congrArg (fun z => some (AV.int z)) (by omega), rfl, rfl, rfl, rfl, rfl, rfl, rfl, rfl, rfl, trivial⟩)
            · exact ⟨⟨hinv.1.1.trans (shuf_swp (by omega) (by omega) (by omega) (by omega)), sink_step hs hinv.1.2 (by omega) (by omega) (hy (by omega)) hx hlt⟩, by omega, by omega⟩
            · omega
          · refine eff_s rfl rfl rfl (opE_pure (w_loadX 0 rfl (ev_tmp rfl) rfl Try.isAgg43 Try.sizeOf43 (by rw [Int.toNat_natCast, List.getElem?_map, hx]; rfl) (by decide))) (fun a _ => (by first | exact invx_mk rfl | exact invx_mk (List.append_assoc _ _ _) | exact invx_all)) ?_
            intro _ _
            refine bt_e1 ?_
            refine eff_s rfl rfl rfl (opE_pure (w_loadX 0 rfl (ev_tmp rfl) rfl Try.isAgg43 Try.sizeOf43 (by rw [show ((j : Int) - 1).toNat = j - 1 by omega, List.getElem?_map, hy (by omega)]; rfl) (by decide))) (fun a _ => (by first | exact invx_mk rfl | exact invx_mk (List.append_assoc _ _ _) | exact invx_all)) ?_
            intro _ _
            refine bt_e1 ?_
            refine eff_s rfl rfl rfl (opE_pure (w_aidx 0 rfl Try.underlying24 Try.sizeOf43 (ev_tmp rfl) rfl (ev_tmp rfl) (by first | omega | ((try simp only [List.length_map, List.length_take, List.length_cons, List.length_nil, chunks_len, szR] at *); omega) | (have hc2 := hc; simp only [Bool.and_eq_true, Bool.or_eq_true, Bool.or_eq_false_iff, Bool.and_eq_false_iff, Bool.not_eq_true', Bool.not_eq_false', decide_eq_true_eq, decide_eq_false_iff_not, beq_iff_eq, bne_iff_ne, List.length_map, List.length_take] at hc2; omega)) (by first | omega | ((try simp only [List.length_map, List.length_take, List.length_cons, List.length_nil, chunks_len, szR] at *); omega) | (have hc2 := hc; simp only [Bool.and_eq_true, Bool.or_eq_true, Bool.or_eq_false_iff, Bool.and_eq_false_iff, Bool.not_eq_true', Bool.not_eq_false', decide_eq_true_eq, decide_eq_false_iff_not, beq_iff_eq, bne_iff_ne, List.length_map, List.length_take] at hc2; omega)))) (fun a _ => (by first | exact invx_mk rfl | exact invx_mk (List.append_assoc _ _ _) | exact invx_all)) ?_
            intro _ _
            refine bt_e1 ?_
            refine eff_s0 rfl rfl rfl (opE_storeA 0 rfl rfl (ev_tmp rfl) (ev_tmp rfl) (as_agg _) rfl Try.sizeOf43 rfl (by first | omega | ((try simp only [List.length_map, List.length_take, List.length_cons, List.length_nil, chunks_len, szR] at *); omega) | (have hc2 := hc; simp only [Bool.and_eq_true, Bool.or_eq_true, Bool.or_eq_false_iff, Bool.and_eq_false_iff, Bool.not_eq_true', Bool.not_eq_false', decide_eq_true_eq, decide_eq_false_iff_not, beq_iff_eq, bne_iff_ne, List.length_map, List.length_take] at hc2; omega))) (fun a _ => (by first | exact invx_mk rfl | exact invx_mk (List.append_assoc _ _ _) | exact invx_all)) ?_
            intro _ _
            refine bt_e1 ?_
            refine eff_s rfl rfl rfl (opE_pure (w_aidx 0 rfl Try.underlying24 Try.sizeOf43 (ev_tmp rfl) rfl (ev_tmp rfl) (by omega) (by rw [List.length_set, List.length_map]; omega))) (fun a _ => (by first | exact invx_mk rfl | exact invx_mk (List.append_assoc _ _ _) | exact invx_all)) ?_
            intro _ _
            refine bt_nil ?_
            refine sq_storeA 0 rfl rfl rfl (ev_tmp rfl) (ev_tmp rfl) (as_agg _) rfl Try.sizeOf43 rfl (by simp only [List.length_set, List.length_map]; omega) ?_
            refine sq_nil ?_
            refine awp_region ?_
            refine sq_plain rfl rfl rfl (w_move rfl (ev_tmp rfl)) ?_
            refine sq_plain rfl rfl rfl (w_subi rfl (ev_tmp rfl) ev_ci (by first | omega | ((try simp only [List.length_map, List.length_take, List.length_cons, List.length_nil, chunks_len, szR] at *); omega) | (have hc2 := hc; simp only [Bool.and_eq_true, Bool.or_eq_true, Bool.or_eq_false_iff, Bool.and_eq_false_iff, Bool.not_eq_true', Bool.not_eq_false', decide_eq_true_eq, decide_eq_false_iff_not, beq_iff_eq, bne_iff_ne, List.length_map, List.length_take] at hc2; omega))) ?_
            refine sq_plain rfl rfl rfl (w_assign rfl (ev_tmp rfl)) ?_
            refine sq_nil ?_
            refine round_end2 j l2 (j - 1) (swp l2 j (j - 1)) ?_ ?_ (le_eq (by (rw [show ((j : Int) - 1).toNat = j - 1 by omega, Int.toNat_natCast]; exact congrArg (fun z => [Own.arr v 43 5 z]) (by rw [← List.map_set, ← List.map_set, swp_eq hx (hy (by omega))]))) ⟨congrArg (fun z => some (AV.int z)) (by omega), rfl, rfl, rfl, rfl, rfl, rfl, rfl, rfl, rfl, trivial⟩)
            · exact ⟨⟨hinv.1.1.trans (shuf_swp (by omega) (by omega) (by omega) (by omega)), sink_step hs hinv.1.2 (by omega) (by omega) (hy (by omega)) hx hlt⟩, by omega, by omega⟩
            · omega
        · refine eff_s rfl rfl rfl (opE_pure (w_loadX 0 rfl (ev_tmp rfl) rfl Try.isAgg43 Try.sizeOf43 (by rw [Int.toNat_natCast, List.getElem?_map, hx]; rfl) (by decide))) (fun a _ => (by first | exact invx_mk rfl | exact invx_mk (List.append_assoc _ _ _) | exact invx_all)) ?_
          intro _ _
          refine bt_e1 ?_
          refine eff_s rfl rfl rfl (opE_pure (w_aidx 0 rfl Try.underlying24 Try.sizeOf43 (ev_tmp rfl) rfl (ev_tmp rfl) (by first | omega | ((try simp only [List.length_map, List.length_take, List.length_cons, List.length_nil, chunks_len, szR] at *); omega) | (have hc2 := hc; simp only [Bool.and_eq_true, Bool.or_eq_true, Bool.or_eq_false_iff, Bool.and_eq_false_iff, Bool.not_eq_true', Bool.not_eq_false', decide_eq_true_eq, decide_eq_false_iff_not, beq_iff_eq, bne_iff_ne, List.length_map, List.length_take] at hc2; omega)) (by first | omega | ((try simp only [List.length_map, List.length_take, List.length_cons, List.length_nil, chunks_len, szR] at *); omega) | (have hc2 := hc; simp only [Bool.and_eq_true, Bool.or_eq_true, Bool.or_eq_false_iff, Bool.and_eq_false_iff, Bool.not_eq_true', Bool.not_eq_false', decide_eq_true_eq, decide_eq_false_iff_not, beq_iff_eq, bne_iff_ne, List.length_map, List.length_take] at hc2; omega)))) (fun a _ => (by first | exact invx_mk rfl | exact invx_mk (List.append_assoc _ _ _) | exact invx_all)) ?_
          intro _ _
          refine bt_e1 ?_
          refine eff_s rfl rfl rfl (opE_pure (w_loadX 0 rfl (ev_tmp rfl) rfl Try.isAgg43 Try.sizeOf43 (by rw [show ((j : Int) - 1).toNat = j - 1 by omega, List.getElem?_map, hy (by omega)]; rfl) (by decide))) (fun a _ => (by first | exact invx_mk rfl | exact invx_mk (List.append_assoc _ _ _) | exact invx_all)) ?_
          intro _ _
          refine bt_e1 ?_
          refine eff_s rfl rfl rfl (opE_pure (w_aidx 0 rfl Try.underlying24 Try.sizeOf43 (ev_tmp rfl) rfl (ev_tmp rfl) (by first | omega | ((try simp only [List.length_map, List.length_take, List.length_cons, List.length_nil, chunks_len, szR] at *); omega) | (have hc2 := hc; simp only [Bool.and_eq_true, Bool.or_eq_true, Bool.or_eq_false_iff, Bool.and_eq_false_iff, Bool.not_eq_true', Bool.not_eq_false', decide_eq_true_eq, decide_eq_false_iff_not, beq_iff_eq, bne_iff_ne, List.length_map, List.length_take] at hc2; omega)) (by first | omega | ((try simp only [List.length_map, List.length_take, List.length_cons, List.length_nil, chunks_len, szR] at *); omega) | (have hc2 := hc; simp only [Bool.and_eq_true, Bool.or_eq_true, Bool.or_eq_false_iff, Bool.and_eq_false_iff, Bool.not_eq_true', Bool.not_eq_false', decide_eq_true_eq, decide_eq_false_iff_not, beq_iff_eq, bne_iff_ne, List.length_map, List.length_take] at hc2; omega)))) (fun a _ => (by first | exact invx_mk rfl | exact invx_mk (List.append_assoc _ _ _) | exact invx_all)) ?_
          intro _ _
          refine bt_e1 ?_
          refine eff_s0 rfl rfl rfl (opE_storeA 0 rfl rfl (ev_tmp rfl) (ev_tmp rfl) (as_agg _) rfl Try.sizeOf43 rfl (by first | omega | ((try simp only [List.length_map, List.length_take, List.length_cons, List.length_nil, chunks_len, szR] at *); omega) | (have hc2 := hc; simp only [Bool.and_eq_true, Bool.or_eq_true, Bool.or_eq_false_iff, Bool.and_eq_false_iff, Bool.not_eq_true', Bool.not_eq_false', decide_eq_true_eq, decide_eq_false_iff_not, beq_iff_eq, bne_iff_ne, List.length_map, List.length_take] at hc2; omega))) (fun a _ => (by first | exact invx_mk rfl | exact invx_mk (List.append_assoc _ _ _) | exact invx_all)) ?_
          intro _ _
          refine bt_e1 ?_
          refine eff_s rfl rfl rfl (opE_pure (w_aidx 0 rfl Try.underlying24 Try.sizeOf43 (ev_tmp rfl) rfl (ev_tmp rfl) (by omega) (by rw [List.length_set, List.length_map]; omega))) (fun a _ => (by first | exact invx_mk rfl | exact invx_mk (List.append_assoc _ _ _) | exact invx_all)) ?_
          intro _ _
          refine bt_nil ?_
          refine sq_storeA 0 rfl rfl rfl (ev_tmp rfl) (ev_tmp rfl) (as_agg _) rfl Try.sizeOf43 rfl (by simp only [List.length_set, List.length_map]; omega) ?_
          refine sq_nil ?_
          refine awp_region ?_
          refine sq_plain rfl rfl rfl (w_move rfl (ev_tmp rfl)) ?_
          refine sq_plain rfl rfl rfl (w_subi rfl (ev_tmp rfl) ev_ci (by first | omega | ((try simp only [List.length_map, List.length_take, List.length_cons, List.length_nil, chunks_len, szR] at *); omega) | (have hc2 := hc; simp only [Bool.and_eq_true, Bool.or_eq_true, Bool.or_eq_false_iff, Bool.and_eq_false_iff, Bool.not_eq_true', Bool.not_eq_false', decide_eq_true_eq, decide_eq_false_iff_not, beq_iff_eq, bne_iff_ne, List.length_map, List.length_take] at hc2; omega))) ?_
          refine sq_plain rfl rfl rfl (w_assign rfl (ev_tmp rfl)) ?_
          refine sq_nil ?_
          refine round_end2 j l2 (j - 1) (swp l2 j (j - 1)) ?_ ?_ (le_eq (by (rw [show ((j : Int) - 1).toNat = j - 1 by omega, Int.toNat_natCast]; exact congrArg (fun z => [Own.arr v 43 5 z]) (by rw [← List.map_set, ← List.map_set, swp_eq hx (hy (by omega))]))) ⟨congrArg (fun z => some (AV.int z)) (by omega), rfl, rfl, rfl, rfl, rfl, rfl, rfl, rfl, rfl, trivial⟩)
          · exact ⟨⟨hinv.1.1.trans (shuf_swp (by omega) (by omega) (by omega) (by omega)), sink_step hs hinv.1.2 (by omega) (by omega) (hy (by omega)) hx hlt⟩, by omega, by omega⟩
          · omega
    · intro h34
      have hinv2 := hinv
      have hsd : SortedOn (fun x y => decide (f x y < 0)) l2 a (i + 1) := sink_end hs hinv.1.2 (by omega) (by (by_cases haj : a < j); (refine .inr ⟨y, x, hy (by omega), hx, ?_⟩; simp only [decide_eq_true (show (a : Int) < (j : Int) by omega), Bool.true_and] at h34; exact h34); exact .inl (by omega))
      refine awp_exit ?_
      refine awp_region ?_
      refine sq_plain rfl rfl rfl (w_move rfl (ev_tmp rfl)) ?_
      refine sq_plain rfl rfl rfl (w_addi rfl (ev_tmp rfl) ev_ci (by first | omega | ((try simp only [List.length_map, List.length_take, List.length_cons, List.length_nil, chunks_len, szR] at *); omega) | (have hc2 := hc; simp only [Bool.and_eq_true, Bool.or_eq_true, Bool.or_eq_false_iff, Bool.and_eq_false_iff, Bool.not_eq_true', Bool.not_eq_false', decide_eq_true_eq, decide_eq_false_iff_not, beq_iff_eq, bne_iff_ne, List.length_map, List.length_take] at hc2; omega))) ?_
      refine sq_plain rfl rfl rfl (w_assign rfl (ev_tmp rfl)) ?_
      refine sq_nil ?_
      refine round_end2 i l1 (i + 1) (l2) ?_ ?_ (le_eq (by rfl) ⟨rfl, rfl, rfl, rfl, rfl, trivial⟩)
      · exact ⟨⟨hinv2.1.1, hsd⟩, by omega, by omega⟩
      · omega
  · intro h14
    have k14 := of_decide_eq_false h14; try simp only [List.length_map] at k14
    refine awp_exit ?_
    (refine retG [0] (l1) ?_ rfl (by first | (dsimp only; rfl) | rfl) (resN rfl (by decide) rv_nil); exact ⟨hsh1, fun p q u w h1 h2 h3 => hso1 p q u w h1 h2 (by omega)⟩)
end Go.Proofs.Ytcglmbinmfkafaa

set_option linter.unusedVariables false
set_option linter.unusedSimpArgs false
set_option maxRecDepth 100000
set_option maxHeartbeats 1000000
namespace Go.Proofs.Ytcglmbinmfkafaa
open Go Go.AV Go.M
attribute [local irreducible] OpW OpA OpS AWP FSpec ESpec GSpec OpE RetOk RetOkG RvDen Le Ev GuardIs SrcIs Int.tmod Int.tdiv IntKind.wrap
theorem rotate_own (v : Value) (l : List TFeedItem) (a m b : Nat) (g : AV) (ham : a < m) (hmb : m < b) (hb : b ≤ l.length) (hl : l.length ≤ 1048576) : GSpec Try.prog 61 [AV.is v, AV.int a, AV.int m, AV.int b, g] [.arr v 43 5 (l.map TFeedItem.cs)]
    (fun l' : List TFeedItem => Shuf l l' a b ∧ Rot l l' a m b) (fun l' => [.arr v 43 5 (l'.map TFeedItem.cs)]) (fun _ => AV.tup []) := by
  refine gspec_of_awp Try.func61 rfl Try.ntmps61 rfl ?_
  refine awp_seq ?_
  refine awp_region ?_
  refine sq_plain rfl rfl rfl (w_move rfl (ev_tmp rfl)) ?_
  refine sq_plain rfl rfl rfl (w_move rfl (ev_tmp rfl)) ?_
  refine sq_plain rfl rfl rfl (w_subi rfl (ev_tmp rfl) (ev_tmp rfl) (by first | omega | ((try simp only [List.length_map, List.length_take, List.length_cons, List.length_nil, chunks_len, szR] at *); omega) | (have hc2 := hc; simp only [Bool.and_eq_true, Bool.or_eq_true, Bool.or_eq_false_iff, Bool.and_eq_false_iff, Bool.not_eq_true', Bool.not_eq_false', decide_eq_true_eq, decide_eq_false_iff_not, beq_iff_eq, bne_iff_ne, List.length_map, List.length_take] at hc2; omega))) ?_
  refine sq_plain rfl rfl rfl (w_assign rfl (ev_tmp rfl)) ?_
  refine sq_nil ?_
  refine awp_seq ?_
  refine awp_region ?_
  refine sq_plain rfl rfl rfl (w_move rfl (ev_tmp rfl)) ?_
  refine sq_plain rfl rfl rfl (w_move rfl (ev_tmp rfl)) ?_
  refine sq_plain rfl rfl rfl (w_subi rfl (ev_tmp rfl) (ev_tmp rfl) (by first | omega | ((try simp only [List.length_map, List.length_take, List.length_cons, List.length_nil, chunks_len, szR] at *); omega) | (have hc2 := hc; simp only [Bool.and_eq_true, Bool.or_eq_true, Bool.or_eq_false_iff, Bool.and_eq_false_iff, Bool.not_eq_true', Bool.not_eq_false', decide_eq_true_eq, decide_eq_false_iff_not, beq_iff_eq, bne_iff_ne, List.length_map, List.length_take] at hc2; omega))) ?_
  refine sq_plain rfl rfl rfl (w_assign rfl (ev_tmp rfl)) ?_
  refine sq_nil ?_
  refine awp_seq ?_
  refine awp_block ?_
  refine awp_loop_i3 [(0, _), (2, _), (4, _)] _ (fun (i : Nat) (j : Nat) (c : List TFeedItem) => (Shuf l c a b ∧ ∀ t, Rot c t (m - i) m (m + j) → Rot l t a m b) ∧ (1 ≤ i ∧ a + i ≤ m) ∧ (1 ≤ j ∧ m + j ≤ b)) (fun (i : Nat) (j : Nat) (c : List TFeedItem) => [.arr v 43 5 (c.map TFeedItem.cs)]) (fun (i : Nat) (j : Nat) (c : List TFeedItem) => [(10, AV.int i), (11, AV.int j)]) (fun (i : Nat) (j : Nat) (c : List TFeedItem) => i + j) (m - a) (b - m) (l) ?_ (le_eq (by rfl) ⟨congrArg (fun z => some (AV.int z)) (by omega), congrArg (fun z => some (AV.int z)) (by omega), rfl, rfl, rfl, trivial⟩) ?_
  · exact ⟨⟨Shuf.refl _ _ _, fun t h => by rw [show m - (m - a) = a by omega, show m + (b - m) = b by omega] at h; exact h⟩, by omega, by omega⟩
  intro i j c hinv
  have hln := hinv.1.1.len
  refine awp_seq ?_
  refine awp_seq ?_
  refine awp_region ?_
  refine sq_plain rfl rfl rfl (w_move rfl (ev_tmp rfl)) ?_
  refine sq_plain rfl rfl rfl (w_move rfl (ev_tmp rfl)) ?_
  refine sq_plain rfl rfl rfl (w_neq rfl (ev_tmp rfl) (ev_tmp rfl)) ?_
  refine sq_nil ?_
  refine awp_cond (ev_tmp rfl) ?_ ?_
  · intro h20
    have k20 := ne_of_bne h20; try simp only [List.length_map] at k20
    refine awp_skip ?_
    refine awp_block ?_
    refine awp_seq ?_
    refine awp_region ?_
    refine sq_plain rfl rfl rfl (w_move rfl (ev_tmp rfl)) ?_
    refine sq_plain rfl rfl rfl (w_move rfl (ev_tmp rfl)) ?_
    refine sq_plain rfl rfl rfl (w_gtr rfl (ev_tmp rfl) (ev_tmp rfl)) ?_
    refine sq_nil ?_
    refine awp_cond (ev_tmp rfl) ?_ ?_
    · intro h23
      have k23 := of_decide_eq_true h23; try simp only [List.length_map] at k23
      refine awp_seq ?_
      refine awp_region ?_
      refine sq_plain rfl rfl rfl (w_move rfl (ev_tmp rfl)) ?_
      refine sq_plain rfl rfl rfl (w_move rfl (ev_tmp rfl)) ?_
      refine sq_plain rfl rfl rfl (w_move rfl (ev_tmp rfl)) ?_
      refine sq_plain rfl rfl rfl (w_subi rfl (ev_tmp rfl) (ev_tmp rfl) (by first | omega | ((try simp only [List.length_map, List.length_take, List.length_cons, List.length_nil, chunks_len, szR] at *); omega) | (have hc2 := hc; simp only [Bool.and_eq_true, Bool.or_eq_true, Bool.or_eq_false_iff, Bool.and_eq_false_iff, Bool.not_eq_true', Bool.not_eq_false', decide_eq_true_eq, decide_eq_false_iff_not, beq_iff_eq, bne_iff_ne, List.length_map, List.length_take] at hc2; omega))) ?_
      refine sq_plain rfl rfl rfl (w_move rfl (ev_tmp rfl)) ?_
      refine sq_plain rfl rfl rfl (w_move rfl (ev_tmp rfl)) ?_
      refine sq_plain rfl rfl rfl (w_move rfl (ev_tmp rfl)) ?_
      refine sq_callG [0] rfl rfl rfl rfl Try.call66 rfl (swapRange_own v c (m - i) m j _ (by omega) (by omega) (by omega)) (evl_cons (ev_tmp rfl) (evl_cons (ev_tmp (congrArg (fun z => some (AV.int z)) (show (m : Int) - (i : Int) = ((m - i : Nat) : Int) by omega))) (evl_cons (ev_tmp rfl) (evl_cons (ev_tmp rfl) (evl_cons (ev_tmp rfl) evl_nil))))) rfl ?_
      intro x31 ok31
      refine sq_nil ?_
      refine awp_region ?_
      refine sq_plain rfl rfl rfl (w_move rfl (ev_tmp rfl)) ?_
      refine sq_plain rfl rfl rfl (w_move rfl (ev_tmp rfl)) ?_
      refine sq_plain rfl rfl rfl (w_subi rfl (ev_tmp rfl) (ev_tmp rfl) (by first | omega | ((try simp only [List.length_map, List.length_take, List.length_cons, List.length_nil, chunks_len, szR] at *); omega) | (have hc2 := hc; simp only [Bool.and_eq_true, Bool.or_eq_true, Bool.or_eq_false_iff, Bool.and_eq_false_iff, Bool.not_eq_true', Bool.not_eq_false', decide_eq_true_eq, decide_eq_false_iff_not, beq_iff_eq, bne_iff_ne, List.length_map, List.length_take] at hc2; omega))) ?_
      refine sq_plain rfl rfl rfl (w_assign rfl (ev_tmp rfl)) ?_
      refine sq_nil ?_
      refine blockN ?_
      refine round_end3 i j c (i - j) (j) (swpR c (m - i) m j) ?_ ?_ (le_eq (by rfl) ⟨(by first | rfl | exact congrArg (fun z => some (AV.int z)) (by omega)), (by first | rfl | exact congrArg (fun z => some (AV.int z)) (by omega)), rfl, rfl, rfl, trivial⟩)
      · exact ⟨⟨hinv.1.1.trans (shuf_swpR (by omega) (by omega) (by omega) (by omega) (by omega) (by omega)), fun t h => hinv.1.2 t (rot_step1 (by omega) (by omega) (by omega) h)⟩, by omega, by omega⟩
      · omega
    · intro h23
      have k23 := of_decide_eq_false h23; try simp only [List.length_map] at k23
      refine awp_seq ?_
      refine awp_region ?_
      refine sq_plain rfl rfl rfl (w_move rfl (ev_tmp rfl)) ?_
      refine sq_plain rfl rfl rfl (w_move rfl (ev_tmp rfl)) ?_
      refine sq_plain rfl rfl rfl (w_move rfl (ev_tmp rfl)) ?_
      refine sq_plain rfl rfl rfl (w_subi rfl (ev_tmp rfl) (ev_tmp rfl) (by first | omega | ((try simp only [List.length_map, List.length_take, List.length_cons, List.length_nil, chunks_len, szR] at *); omega) | (have hc2 := hc; simp only [Bool.and_eq_true, Bool.or_eq_true, Bool.or_eq_false_iff, Bool.and_eq_false_iff, Bool.not_eq_true', Bool.not_eq_false', decide_eq_true_eq, decide_eq_false_iff_not, beq_iff_eq, bne_iff_ne, List.length_map, List.length_take] at hc2; omega))) ?_
      refine sq_plain rfl rfl rfl (w_move rfl (ev_tmp rfl)) ?_
      refine sq_plain rfl rfl rfl (w_move rfl (ev_tmp rfl)) ?_
      refine sq_plain rfl rfl rfl (w_addi rfl (ev_tmp rfl) (ev_tmp rfl) (by first | omega | ((try simp only [List.length_map, List.length_take, List.length_cons, List.length_nil, chunks_len, szR] at *); omega) | (have hc2 := hc; simp only [Bool.and_eq_true, Bool.or_eq_true, Bool.or_eq_false_iff, Bool.and_eq_false_iff, Bool.not_eq_true', Bool.not_eq_false', decide_eq_true_eq, decide_eq_false_iff_not, beq_iff_eq, bne_iff_ne, List.length_map, List.length_take] at hc2; omega))) ?_
      refine sq_plain rfl rfl rfl (w_move rfl (ev_tmp rfl)) ?_
      refine sq_plain rfl rfl rfl (w_subi rfl (ev_tmp rfl) (ev_tmp rfl) (by first | omega | ((try simp only [List.length_map, List.length_take, List.length_cons, List.length_nil, chunks_len, szR] at *); omega) | (have hc2 := hc; simp only [Bool.and_eq_true, Bool.or_eq_true, Bool.or_eq_false_iff, Bool.and_eq_false_iff, Bool.not_eq_true', Bool.not_eq_false', decide_eq_true_eq, decide_eq_false_iff_not, beq_iff_eq, bne_iff_ne, List.length_map, List.length_take] at hc2; omega))) ?_
      refine sq_plain rfl rfl rfl (w_move rfl (ev_tmp rfl)) ?_
      refine sq_plain rfl rfl rfl (w_move rfl (ev_tmp rfl)) ?_
      refine sq_callG [0] rfl rfl rfl rfl Try.call66 rfl (swapRange_own v c (m - i) (m + j - i) i _ (by omega) (by omega) (by omega)) (evl_cons (ev_tmp rfl) (evl_cons (ev_tmp (congrArg (fun z => some (AV.int z)) (show (m : Int) - (i : Int) = ((m - i : Nat) : Int) by omega))) (evl_cons (ev_tmp (congrArg (fun z => some (AV.int z)) (show (m : Int) + (j : Int) - (i : Int) = ((m + j - i : Nat) : Int) by omega))) (evl_cons (ev_tmp rfl) (evl_cons (ev_tmp rfl) evl_nil))))) rfl ?_
      intro x46 ok46
      refine sq_nil ?_
      refine awp_region ?_
      refine sq_plain rfl rfl rfl (w_move rfl (ev_tmp rfl)) ?_
      refine sq_plain rfl rfl rfl (w_move rfl (ev_tmp rfl)) ?_
      refine sq_plain rfl rfl rfl (w_subi rfl (ev_tmp rfl) (ev_tmp rfl) (by first | omega | ((try simp only [List.length_map, List.length_take, List.length_cons, List.length_nil, chunks_len, szR] at *); omega) | (have hc2 := hc; simp only [Bool.and_eq_true, Bool.or_eq_true, Bool.or_eq_false_iff, Bool.and_eq_false_iff, Bool.not_eq_true', Bool.not_eq_false', decide_eq_true_eq, decide_eq_false_iff_not, beq_iff_eq, bne_iff_ne, List.length_map, List.length_take] at hc2; omega))) ?_
      refine sq_plain rfl rfl rfl (w_assign rfl (ev_tmp rfl)) ?_
      refine sq_nil ?_
      refine blockN ?_
      refine round_end3 i j c (i) (j - i) (swpR c (m - i) (m + j - i) i) ?_ ?_ (le_eq (by rfl) ⟨(by first | rfl | exact congrArg (fun z => some (AV.int z)) (by omega)), (by first | rfl | exact congrArg (fun z => some (AV.int z)) (by omega)), rfl, rfl, rfl, trivial⟩)
      · exact ⟨⟨hinv.1.1.trans (shuf_swpR (by omega) (by omega) (by omega) (by omega) (by omega) (by omega)), fun t h => hinv.1.2 t (rot_step2 (by omega) (by omega) (by omega) h)⟩, by omega, by omega⟩
      · omega
  · intro h20
    have k20 := eq_of_bne_false h20; try simp only [List.length_map] at k20
    have hij : j = i := by omega
    subst hij
    refine awp_exit ?_
    refine awp_region ?_
    refine sq_plain rfl rfl rfl (w_move rfl (ev_tmp rfl)) ?_
    refine sq_plain rfl rfl rfl (w_move rfl (ev_tmp rfl)) ?_
    refine sq_plain rfl rfl rfl (w_move rfl (ev_tmp rfl)) ?_
    refine sq_plain rfl rfl rfl (w_subi rfl (ev_tmp rfl) (ev_tmp rfl) (by first | omega | ((try simp only [List.length_map, List.length_take, List.length_cons, List.length_nil, chunks_len, szR] at *); omega) | (have hc2 := hc; simp only [Bool.and_eq_true, Bool.or_eq_true, Bool.or_eq_false_iff, Bool.and_eq_false_iff, Bool.not_eq_true', Bool.not_eq_false', decide_eq_true_eq, decide_eq_false_iff_not, beq_iff_eq, bne_iff_ne, List.length_map, List.length_take] at hc2; omega))) ?_
    refine sq_plain rfl rfl rfl (w_move rfl (ev_tmp rfl)) ?_
    refine sq_plain rfl rfl rfl (w_move rfl (ev_tmp rfl)) ?_
    refine sq_plain rfl rfl rfl (w_move rfl (ev_tmp rfl)) ?_
    refine sq_callG [0] rfl rfl rfl rfl Try.call66 rfl (swapRange_own v c (m - j) m j _ (by omega) (by omega) (by omega)) (evl_cons (ev_tmp rfl) (evl_cons (ev_tmp (congrArg (fun z => some (AV.int z)) (show (m : Int) - (j : Int) = ((m - j : Nat) : Int) by omega))) (evl_cons (ev_tmp rfl) (evl_cons (ev_tmp rfl) (evl_cons (ev_tmp rfl) evl_nil))))) rfl ?_
    intro x57 ok57
    refine sq_nil ?_
    exact retG [0] (swpR c (m - j) m j) (⟨hinv.1.1.trans (shuf_swpR (by omega) (by omega) (by omega) (by omega) (by omega) (by omega)), hinv.1.2 _ (rot_end (by omega) (by omega))⟩) rfl (by rfl) (resN rfl (by decide) rv_nil)
end Go.Proofs.Ytcglmbinmfkafaa

set_option linter.unusedVariables false
set_option linter.unusedSimpArgs false
set_option maxRecDepth 100000
set_option maxHeartbeats 1000000
namespace Go.Proofs.Ytcglmbinmfkafaa
open Go Go.AV Go.M
attribute [local irreducible] OpW OpA OpS AWP FSpec ESpec GSpec OpE RetOk RetOkG RvDen Le Ev GuardIs SrcIs Int.tmod Int.tdiv IntKind.wrap
theorem mid_eq (i j : Nat) (h : i + j ≤ 9223372036854775807) : (IntKind.wrap .i64 (IntKind.wrap .u64 ((i : Int) + (j : Int)) / 2 ^ (1 : Int).toNat)) = (((i + j) / 2 : Nat) : Int) := by
  have h1 : IntKind.wrap .u64 ((i : Int) + (j : Int)) = (i : Int) + (j : Int) := by
    unfold IntKind.wrap
    simp only [IntKind.bits, IntKind.signed]
    exact Int.emod_eq_of_lt (by omega) (by omega)
  rw [h1, show ((i : Int) + (j : Int)) / 2 ^ (1 : Int).toNat = (((i + j) / 2 : Nat) : Int) by rw [show (2 : Int) ^ (1 : Int).toNat = 2 from rfl]; omega]
  exact in64 (by omega)
theorem upR_next {α : Type} [Inhabited α] (l : List α) {a k : Nat} (h : a ≤ k) : upR l a (k + 1 - a) = swp (upR l a (k - a)) k (k + 1) := by
  rw [show k + 1 - a = (k - a) + 1 by omega]
  show swp _ (a + (k - a)) (a + (k - a) + 1) = _
  rw [show a + (k - a) = k by omega]
theorem downR_next {α : Type} [Inhabited α] (l : List α) {m k : Nat} (h : k ≤ m) (h1 : 1 ≤ k) : downR l m (m - (k - 1)) = swp (downR l m (m - k)) k (k - 1) := by
  rw [show m - (k - 1) = (m - k) + 1 by omega]
  show swp _ (m - (m - k)) (m - (m - k) - 1) = _
  rw [show m - (m - k) = k by omega]
theorem rot_none {α : Type} [Inhabited α] {l : List α} {p m q : Nat} (h1 : p ≤ m) (h2 : m ≤ q) (h : p = m ∨ q = m) : Rot l l p m q where
  out k hk := rfl
  fst k hk := by congr 1; omega
  snd k hk := by congr 1; omega
theorem symMerge_own (v : Value) (f : TFeedItem → TFeedItem → Int) (hs : Swo fun x y => decide (f x y < 0)) : ∀ (N : Nat) (l : List TFeedItem) (a m b : Nat), b - a ≤ N → a < m → m < b → b ≤ l.length → l.length ≤ 1048576 →
    SortedOn (fun x y => decide (f x y < 0)) l a m → SortedOn (fun x y => decide (f x y < 0)) l m b →
    GSpec Try.prog 50 [AV.is v, AV.int a, AV.int m, AV.int b, AV.fun2 Try.prog (fun _ _ => True) (fun x : TFeedItem => AV.agg x.cs) (fun y : TFeedItem => AV.agg y.cs) (fun x y => AV.int (f x y))] [.arr v 43 5 (l.map TFeedItem.cs)]
      (fun l' : List TFeedItem => Shuf l l' a b ∧ SortedOn (fun x y => decide (f x y < 0)) l' a b) (fun l' => [.arr v 43 5 (l'.map TFeedItem.cs)]) (fun _ => AV.tup []) := by
  intro N
  induction N with
  | zero => intro l a m b h1 h2 h3; exact absurd h1 (by omega)
  | succ N ih =>
  intro l a m b hN ham hmb hb hl s1 s2
  refine gspec_of_awp Try.func50 rfl Try.ntmps50 rfl ?_
  refine awp_seq ?_
  refine awp_seq ?_
  refine awp_region ?_
  refine sq_plain rfl rfl rfl (w_move rfl (ev_tmp rfl)) ?_
  refine sq_plain rfl rfl rfl (w_move rfl (ev_tmp rfl)) ?_
  refine sq_plain rfl rfl rfl (w_subi rfl (ev_tmp rfl) (ev_tmp rfl) (by first | omega | ((try simp only [List.length_map, List.length_take, List.length_cons, List.length_nil, chunks_len, szR] at *); omega) | (have hc2 := hc; simp only [Bool.and_eq_true, Bool.or_eq_true, Bool.or_eq_false_iff, Bool.and_eq_false_iff, Bool.not_eq_true', Bool.not_eq_false', decide_eq_true_eq, decide_eq_false_iff_not, beq_iff_eq, bne_iff_ne, List.length_map, List.length_take] at hc2; omega))) ?_
  refine sq_plain rfl rfl rfl (w_eql rfl (ev_tmp rfl) ev_ci) ?_
  refine sq_nil ?_
  refine awp_cond (ev_tmp rfl) ?_ ?_
  · intro h28
    have k28 := eq_of_beqt h28; try simp only [List.length_map] at k28
    have ham1 : m = a + 1 := by omega
    refine awp_seq ?_
    refine awp_region ?_
    refine sq_plain rfl rfl rfl (w_move rfl (ev_tmp rfl)) ?_
    refine sq_plain rfl rfl rfl (w_assign rfl (ev_tmp rfl)) ?_
    refine sq_nil ?_
    refine awp_seq ?_
    refine awp_region ?_
    refine sq_plain rfl rfl rfl (w_move rfl (ev_tmp rfl)) ?_
    refine sq_plain rfl rfl rfl (w_assign rfl (ev_tmp rfl)) ?_
    refine sq_nil ?_
    refine awp_seq ?_
    refine awp_block ?_
    refine awp_loop_i2 [(0, _), (1, _), (2, _), (3, _), (4, _)] _ (fun (i : Nat) (j : Nat) => (m ≤ i ∧ i ≤ j ∧ j ≤ b) ∧ (j = b ∨ ∃ x y, l[a]? = some x ∧ l[j]? = some y ∧ decide (f y x < 0) = false) ∧ (i = m ∨ ∃ x y, l[i - 1]? = some x ∧ l[a]? = some y ∧ decide (f x y < 0) = true)) (fun (i : Nat) (j : Nat) => [.arr v 43 5 (l.map TFeedItem.cs)]) (fun (i : Nat) (j : Nat) => [(10, AV.int i), (11, AV.int j)]) (fun (i : Nat) (j : Nat) => j - i) (m) (b) ?_ (le_eq (by rfl) ⟨rfl, rfl, rfl, rfl, rfl, rfl, rfl, trivial⟩) ?_
    · exact ⟨by omega, .inl rfl, .inl rfl⟩
    intro i j hinv
    refine awp_seq ?_
    refine awp_seq ?_
    refine awp_region ?_
    refine sq_plain rfl rfl rfl (w_move rfl (ev_tmp rfl)) ?_
    refine sq_plain rfl rfl rfl (w_move rfl (ev_tmp rfl)) ?_
    refine sq_plain rfl rfl rfl (w_lss rfl (ev_tmp rfl) (ev_tmp rfl)) ?_
    refine sq_nil ?_
    refine awp_cond (ev_tmp rfl) ?_ ?_
    · intro h33
      have k33 := of_decide_eq_true h33; try simp only [List.length_map] at k33
      have hmid : (IntKind.wrap .i64 (IntKind.wrap .u64 ((i : Int) + (j : Int)) / 2 ^ (1 : Int).toNat)) = (((i + j) / 2 : Nat) : Int) := mid_eq i j (by omega)
      obtain ⟨x, hx⟩ := get_some (show a < l.length by omega)
      obtain ⟨y, hy⟩ := get_some (show (i + j) / 2 < l.length by omega)
      refine awp_skip ?_
      refine awp_block ?_
      refine awp_seq ?_
      refine awp_region ?_
      refine sq_plain rfl rfl rfl (w_move rfl (ev_tmp rfl)) ?_
      refine sq_plain rfl rfl rfl (w_move rfl (ev_tmp rfl)) ?_
      refine sq_plain rfl rfl rfl (w_addi rfl (ev_tmp rfl) (ev_tmp rfl) (by first | omega | ((try simp only [List.length_map, List.length_take, List.length_cons, List.length_nil, chunks_len, szR] at *); omega) | (have hc2 := hc; simp only [Bool.and_eq_true, Bool.or_eq_true, Bool.or_eq_false_iff, Bool.and_eq_false_iff, Bool.not_eq_true', Bool.not_eq_false', decide_eq_true_eq, decide_eq_false_iff_not, beq_iff_eq, bne_iff_ne, List.length_map, List.length_take] at hc2; omega))) ?_
      refine sq_plain rfl rfl rfl (w_conv rfl (by kernel_rfl) Try.underlying80 (ev_tmp rfl)) ?_
      refine sq_plain rfl rfl rfl (w_shr rfl (ev_tmp rfl) ev_ci (by decide) (by decide)) ?_
      refine sq_plain rfl rfl rfl (w_conv rfl (by kernel_rfl) Try.underlying3 (ev_tmp rfl)) ?_
      refine sq_plain rfl rfl rfl (w_assign rfl (ev_tmp rfl)) ?_
      refine sq_nil ?_
      refine awp_seq ?_
      refine awp_region_any (by kernel_rfl) (by kernel_rfl) rfl ?_
      refine ch_plain rfl rfl (w_move rfl (ev_tmp rfl)) ?_
      refine ch_plain rfl rfl (w_move rfl (ev_tmp rfl)) ?_
      refine ch_plain rfl rfl (w_move rfl (ev_tmp rfl)) ?_
      refine ch_plain rfl rfl (w_aidx 0 rfl Try.underlying24 Try.sizeOf43 (ev_tmp rfl) rfl (ev_tmp rfl) (by first | omega | ((try simp only [List.length_map, List.length_take, List.length_cons, List.length_nil, chunks_len, szR] at *); omega) | (have hc2 := hc; simp only [Bool.and_eq_true, Bool.or_eq_true, Bool.or_eq_false_iff, Bool.and_eq_false_iff, Bool.not_eq_true', Bool.not_eq_false', decide_eq_true_eq, decide_eq_false_iff_not, beq_iff_eq, bne_iff_ne, List.length_map, List.length_take] at hc2; omega)) (by first | omega | ((try simp only [List.length_map, List.length_take, List.length_cons, List.length_nil, chunks_len, szR] at *); omega) | (have hc2 := hc; simp only [Bool.and_eq_true, Bool.or_eq_true, Bool.or_eq_false_iff, Bool.and_eq_false_iff, Bool.not_eq_true', Bool.not_eq_false', decide_eq_true_eq, decide_eq_false_iff_not, beq_iff_eq, bne_iff_ne, List.length_map, List.length_take] at hc2; omega))) ?_
      refine ch_plain rfl rfl (w_loadX 0 rfl (ev_tmp rfl) rfl Try.isAgg43 Try.sizeOf43 (by rw [hmid, Int.toNat_natCast, List.getElem?_map, hy]; rfl) (by decide)) ?_
      refine ch_plain rfl rfl (w_move rfl (ev_tmp rfl)) ?_
      refine ch_plain rfl rfl (w_move rfl (ev_tmp rfl)) ?_
      refine ch_plain rfl rfl (w_aidx 0 rfl Try.underlying24 Try.sizeOf43 (ev_tmp rfl) rfl (ev_tmp rfl) (by first | omega | ((try simp only [List.length_map, List.length_take, List.length_cons, List.length_nil, chunks_len, szR] at *); omega) | (have hc2 := hc; simp only [Bool.and_eq_true, Bool.or_eq_true, Bool.or_eq_false_iff, Bool.and_eq_false_iff, Bool.not_eq_true', Bool.not_eq_false', decide_eq_true_eq, decide_eq_false_iff_not, beq_iff_eq, bne_iff_ne, List.length_map, List.length_take] at hc2; omega)) (by first | omega | ((try simp only [List.length_map, List.length_take, List.length_cons, List.length_nil, chunks_len, szR] at *); omega) | (have hc2 := hc; simp only [Bool.and_eq_true, Bool.or_eq_true, Bool.or_eq_false_iff, Bool.and_eq_false_iff, Bool.not_eq_true', Bool.not_eq_false', decide_eq_true_eq, decide_eq_false_iff_not, beq_iff_eq, bne_iff_ne, List.length_map, List.length_take] at hc2; omega))) ?_
      refine ch_plain rfl rfl (w_loadX 0 rfl (ev_tmp rfl) rfl Try.isAgg43 Try.sizeOf43 (by rw [Int.toNat_natCast, List.getElem?_map, hx]; rfl) (by decide)) ?_
      refine ch_plain rfl rfl (w_callv2 rfl (ev_tmp rfl) y x trivial (ev_tmp rfl) (ev_tmp rfl)) ?_
      refine ch_plain rfl rfl (w_lss rfl (ev_tmp rfl) ev_ci) ?_
      refine ch_nil ?_
      refine awp_cond (ev_tmp rfl) ?_ ?_
      · intro h50
        have k50 := of_decide_eq_true h50; try simp only [List.length_map] at k50
        refine awp_region ?_
        refine sq_plain rfl rfl rfl (w_move rfl (ev_tmp rfl)) ?_
        refine sq_plain rfl rfl rfl (w_addi rfl (ev_tmp rfl) ev_ci (by first | omega | ((try simp only [List.length_map, List.length_take, List.length_cons, List.length_nil, chunks_len, szR] at *); omega) | (have hc2 := hc; simp only [Bool.and_eq_true, Bool.or_eq_true, Bool.or_eq_false_iff, Bool.and_eq_false_iff, Bool.not_eq_true', Bool.not_eq_false', decide_eq_true_eq, decide_eq_false_iff_not, beq_iff_eq, bne_iff_ne, List.length_map, List.length_take] at hc2; omega))) ?_
        refine sq_plain rfl rfl rfl (w_assign rfl (ev_tmp rfl)) ?_
        refine sq_nil ?_
        refine blockN ?_
        refine round_end2 i j ((i + j) / 2 + 1) (j) ?_ ?_ (le_eq (by rfl) ⟨(by first | rfl | exact congrArg (fun z => some (AV.int z)) (by rw [hmid]; omega)), (by first | rfl | exact congrArg (fun z => some (AV.int z)) hmid), rfl, rfl, rfl, rfl, rfl, trivial⟩)
        · exact ⟨by omega, hinv.2.1, .inr ⟨y, x, by rw [Nat.add_sub_cancel]; exact hy, hx, h50⟩⟩
        · omega
      · intro h50
        have k50 := of_decide_eq_false h50; try simp only [List.length_map] at k50
        refine awp_region ?_
        refine sq_plain rfl rfl rfl (w_move rfl (ev_tmp rfl)) ?_
        refine sq_plain rfl rfl rfl (w_assign rfl (ev_tmp rfl)) ?_
        refine sq_nil ?_
        refine blockN ?_
        refine round_end2 i j (i) ((i + j) / 2) ?_ ?_ (le_eq (by rfl) ⟨(by first | rfl | exact congrArg (fun z => some (AV.int z)) (by rw [hmid]; omega)), (by first | rfl | exact congrArg (fun z => some (AV.int z)) hmid), rfl, rfl, rfl, rfl, rfl, trivial⟩)
        · exact ⟨by omega, .inr ⟨x, y, hx, hy, h50⟩, hinv.2.2⟩
        · omega
    · intro h33
      have k33 := of_decide_eq_false h33; try simp only [List.length_map] at k33
      have hij : j = i := by omega
      subst hij
      have hinv0 := hinv
      refine awp_exit ?_
      refine awp_seq ?_
      refine awp_seq ?_
      refine awp_region ?_
      refine sq_plain rfl rfl rfl (w_move rfl (ev_tmp rfl)) ?_
      refine sq_plain rfl rfl rfl (w_assign rfl (ev_tmp rfl)) ?_
      refine sq_nil ?_
      refine awp_block ?_
      refine awp_loop_i [(0, _), (1, _), (2, _), (3, _), (4, _), (10, _)] _ (fun (k : Nat) => a ≤ k ∧ k + 1 ≤ j) (fun (k : Nat) => [.arr v 43 5 ((upR l a (k - a)).map TFeedItem.cs)]) (fun (k : Nat) => [(13, AV.int k)]) (fun (k : Nat) => j - k) (a) ?_ (le_eq (by (rw [Nat.sub_self]; rfl)) ⟨rfl, rfl, rfl, rfl, rfl, rfl, rfl, trivial⟩) ?_
      · omega
      intro k hinv
      have hul := upR_len l a (k - a)
      refine awp_seq ?_
      refine awp_seq ?_
      refine awp_region ?_
      refine sq_plain rfl rfl rfl (w_move rfl (ev_tmp rfl)) ?_
      refine sq_plain rfl rfl rfl (w_move rfl (ev_tmp rfl)) ?_
      refine sq_plain rfl rfl rfl (w_subi rfl (ev_tmp rfl) ev_ci (by first | omega | ((try simp only [List.length_map, List.length_take, List.length_cons, List.length_nil, chunks_len, szR] at *); omega) | (have hc2 := hc; simp only [Bool.and_eq_true, Bool.or_eq_true, Bool.or_eq_false_iff, Bool.and_eq_false_iff, Bool.not_eq_true', Bool.not_eq_false', decide_eq_true_eq, decide_eq_false_iff_not, beq_iff_eq, bne_iff_ne, List.length_map, List.length_take] at hc2; omega))) ?_
      refine sq_plain rfl rfl rfl (w_lss rfl (ev_tmp rfl) (ev_tmp rfl)) ?_
      refine sq_nil ?_
      refine awp_cond (ev_tmp rfl) ?_ ?_
      · intro h58
        have k58 := of_decide_eq_true h58; try simp only [List.length_map] at k58
        obtain ⟨x1, hx1⟩ := get_some (show k < (upR l a (k - a)).length by omega)
        obtain ⟨y1, hy1⟩ := get_some (show k + 1 < (upR l a (k - a)).length by omega)
        refine awp_skip ?_
        refine awp_seq ?_
        refine awp_block ?_
        refine awp_region_tree [] 17 (.pure 0 (.pure 1 (.pure 2 (.pure 3 (.pure 4 (.pure 5 (.pure 6 (.pure 7 (.pure 10 (.pure 11 (.e2 8 (.e2 9 (.e1 12 (.e1 13 (.e1 14 (.e1 15 (.e1 16 .nil))))) 12 (.e2 9 (.e1 13 (.e1 14 (.e1 15 (.e1 16 .nil)))) 13 (.e1 9 (.e1 14 (.e1 15 (.e1 16 .nil)))))) 12 (.e2 8 (.e2 9 (.e1 13 (.e1 14 (.e1 15 (.e1 16 .nil)))) 13 (.e1 9 (.e1 14 (.e1 15 (.e1 16 .nil))))) 13 (.e1 8 (.e1 9 (.e1 14 (.e1 15 (.e1 16 .nil))))))))))))))))) (by kernel_rfl) (by kernel_rfl) rfl invx_all ?_
        refine bt_plain rfl rfl rfl (fun ext => w_move rfl (ev_tmp rfl)) ?_
        refine bt_plain rfl rfl rfl (fun ext => w_move rfl (ev_tmp rfl)) ?_
        refine bt_plain rfl rfl rfl (fun ext => w_move rfl (ev_tmp rfl)) ?_
        refine bt_plain rfl rfl rfl (fun ext => w_move rfl (ev_tmp rfl)) ?_
        refine bt_plain rfl rfl rfl (fun ext => w_addi rfl (ev_tmp rfl) ev_ci (by first | omega | ((try simp only [List.length_map, List.length_take, List.length_cons, List.length_nil, chunks_len, szR] at *); omega) | (have hc2 := hc; simp only [Bool.and_eq_true, Bool.or_eq_true, Bool.or_eq_false_iff, Bool.and_eq_false_iff, Bool.not_eq_true', Bool.not_eq_false', decide_eq_true_eq, decide_eq_false_iff_not, beq_iff_eq, bne_iff_ne, List.length_map, List.length_take] at hc2; omega))) ?_
        refine bt_plain rfl rfl rfl (fun ext => w_move rfl (ev_tmp rfl)) ?_
        refine bt_plain rfl rfl rfl (fun ext => w_move rfl (ev_tmp rfl)) ?_
        refine bt_plain rfl rfl rfl (fun ext => w_addi rfl (ev_tmp rfl) ev_ci (by first | omega | ((try simp only [List.length_map, List.length_take, List.length_cons, List.length_nil, chunks_len, szR] at *); omega) | (have hc2 := hc; simp only [Bool.and_eq_true, Bool.or_eq_true, Bool.or_eq_false_iff, Bool.and_eq_false_iff, Bool.not_eq_true', Bool.not_eq_false', decide_eq_true_eq, decide_eq_false_iff_not, beq_iff_eq, bne_iff_ne, List.length_map, List.length_take] at hc2; omega))) ?_
        refine bt_plain rfl rfl rfl (fun ext => w_move rfl (ev_tmp rfl)) ?_
        refine bt_plain rfl rfl rfl (fun ext => w_move rfl (ev_tmp rfl)) ?_
        refine bt_e2 ?_ ?_
        · refine eff_s rfl rfl rfl (opE_pure (w_aidx 0 rfl Try.underlying24 Try.sizeOf43 (ev_tmp rfl) rfl (ev_tmp rfl) (by first | omega | ((try simp only [List.length_map, List.length_take, List.length_cons, List.length_nil, chunks_len, szR] at *); omega) | (have hc2 := hc; simp only [Bool.and_eq_true, Bool.or_eq_true, Bool.or_eq_false_iff, Bool.and_eq_false_iff, Bool.not_eq_true', Bool.not_eq_false', decide_eq_true_eq, decide_eq_false_iff_not, beq_iff_eq, bne_iff_ne, List.length_map, List.length_take] at hc2; omega)) (by first | omega | ((try simp only [List.length_map, List.length_take, List.length_cons, List.length_nil, chunks_len, szR] at *); omega) | (have hc2 := hc; simp only [Bool.and_eq_true, Bool.or_eq_true, Bool.or_eq_false_iff, Bool.and_eq_false_iff, Bool.not_eq_true', Bool.not_eq_false', decide_eq_true_eq, decide_eq_false_iff_not, beq_iff_eq, bne_iff_ne, List.length_map, List.length_take] at hc2; omega)))) (fun a _ => (by first | exact invx_mk rfl | exact invx_mk (List.append_assoc _ _ _) | exact invx_all)) ?_
          intro _ _
          refine bt_e2 ?_ ?_
          · refine eff_s rfl rfl rfl (opE_pure (w_loadX 0 rfl (ev_tmp rfl) rfl Try.isAgg43 Try.sizeOf43 (by rw [show ((k : Int) + 1).toNat = k + 1 by omega, List.getElem?_map, hy1]; rfl) (by decide))) (fun a _ => (by first | exact invx_mk rfl | exact invx_mk (List.append_assoc _ _ _) | exact invx_all)) ?_
            intro _ _
            refine bt_e1 ?_
            refine eff_s rfl rfl rfl (opE_pure (w_aidx 0 rfl Try.underlying24 Try.sizeOf43 (ev_tmp rfl) rfl (ev_tmp rfl) (by first | omega | ((try simp only [List.length_map, List.length_take, List.length_cons, List.length_nil, chunks_len, szR] at *); omega) | (have hc2 := hc; simp only [Bool.and_eq_true, Bool.or_eq_true, Bool.or_eq_false_iff, Bool.and_eq_false_iff, Bool.not_eq_true', Bool.not_eq_false', decide_eq_true_eq, decide_eq_false_iff_not, beq_iff_eq, bne_iff_ne, List.length_map, List.length_take] at hc2; omega)) (by first | omega | ((try simp only [List.length_map, List.length_take, List.length_cons, List.length_nil, chunks_len, szR] at *); omega) | (have hc2 := hc; simp only [Bool.and_eq_true, Bool.or_eq_true, Bool.or_eq_false_iff, Bool.and_eq_false_iff, Bool.not_eq_true', Bool.not_eq_false', decide_eq_true_eq, decide_eq_false_iff_not, beq_iff_eq, bne_iff_ne, List.length_map, List.length_take] at hc2; omega)))) (fun a _ => (by first | exact invx_mk rfl | exact invx_mk (List.append_assoc _ _ _) | exact invx_all)) ?_
            intro _ _
            refine bt_e1 ?_
            refine eff_s rfl rfl rfl (opE_pure (w_loadX 0 rfl (ev_tmp rfl) rfl Try.isAgg43 Try.sizeOf43 (by rw [Int.toNat_natCast, List.getElem?_map, hx1]; rfl) (by decide))) (fun a _ => (by first | exact invx_mk rfl | exact invx_mk (List.append_assoc _ _ _) | exact invx_all)) ?_
            intro _ _
            refine bt_e1 ?_
            refine eff_s rfl rfl rfl (opE_pure (w_aidx 0 rfl Try.underlying24 Try.sizeOf43 (ev_tmp rfl) rfl (ev_tmp rfl) (by first | omega | ((try simp only [List.length_map, List.length_take, List.length_cons, List.length_nil, chunks_len, szR] at *); omega) | (have hc2 := hc; simp only [Bool.and_eq_true, Bool.or_eq_true, Bool.or_eq_false_iff, Bool.and_eq_false_iff, Bool.not_eq_true', Bool.not_eq_false', decide_eq_true_eq, decide_eq_false_iff_not, beq_iff_eq, bne_iff_ne, List.length_map, List.length_take] at hc2; omega)) (by first | omega | ((try simp only [List.length_map, List.length_take, List.length_cons, List.length_nil, chunks_len, szR] at *); omega) | (have hc2 := hc; simp only [Bool.and_eq_true, Bool.or_eq_true, Bool.or_eq_false_iff, Bool.and_eq_false_iff, Bool.not_eq_true', Bool.not_eq_false', decide_eq_true_eq, decide_eq_false_iff_not, beq_iff_eq, bne_iff_ne, List.length_map, List.length_take] at hc2; omega)))) (fun a _ => (by first | exact invx_mk rfl | exact invx_mk (List.append_assoc _ _ _) | exact invx_all)) ?_
            intro _ _
            refine bt_e1 ?_
            refine eff_s0 rfl rfl rfl (opE_storeA 0 rfl rfl (ev_tmp rfl) (ev_tmp rfl) (as_agg _) rfl Try.sizeOf43 rfl (by first | omega | ((try simp only [List.length_map, List.length_take, List.length_cons, List.length_nil, chunks_len, szR] at *); omega) | (have hc2 := hc; simp only [Bool.and_eq_true, Bool.or_eq_true, Bool.or_eq_false_iff, Bool.and_eq_false_iff, Bool.not_eq_true', Bool.not_eq_false', decide_eq_true_eq, decide_eq_false_iff_not, beq_iff_eq, bne_iff_ne, List.length_map, List.length_take] at hc2; omega))) (fun a _ => (by first | exact invx_mk rfl | exact invx_mk (List.append_assoc _ _ _) | exact invx_all)) ?_
            intro _ _
            refine bt_e1 ?_
            refine eff_s rfl rfl rfl (opE_pure (w_aidx 0 rfl Try.underlying24 Try.sizeOf43 (ev_tmp rfl) rfl (ev_tmp rfl) (by omega) (by rw [List.length_set, List.length_map]; omega))) (fun a _ => (by first | exact invx_mk rfl | exact invx_mk (List.append_assoc _ _ _) | exact invx_all)) ?_
            intro _ _
            refine bt_nil ?_
            refine sq_storeA 0 rfl rfl rfl (ev_tmp rfl) (ev_tmp rfl) (as_agg _) rfl Try.sizeOf43 rfl (by simp only [List.length_set, List.length_map]; omega) ?_
            refine sq_nil ?_
            refine awp_region ?_
            refine sq_plain rfl rfl rfl (w_move rfl (ev_tmp rfl)) ?_
            refine sq_plain rfl rfl rfl (w_addi rfl (ev_tmp rfl) ev_ci (by first | omega | ((try simp only [List.length_map, List.length_take, List.length_cons, List.length_nil, chunks_len, szR] at *); omega) | (have hc2 := hc; simp only [Bool.and_eq_true, Bool.or_eq_true, Bool.or_eq_false_iff, Bool.and_eq_false_iff, Bool.not_eq_true', Bool.not_eq_false', decide_eq_true_eq, decide_eq_false_iff_not, beq_iff_eq, bne_iff_ne, List.length_map, List.length_take] at hc2; omega))) ?_
            refine sq_plain rfl rfl rfl (w_assign rfl (ev_tmp rfl)) ?_
            refine sq_nil ?_
            refine round_end k (k + 1) ?_ ?_ (le_eq (by (rw [show ((k : Int) + 1).toNat = k + 1 by omega, Int.toNat_natCast]; exact congrArg (fun z => [Own.arr v 43 5 z]) (by rw [← List.map_set, ← List.map_set, swp_eq hx1 hy1, upR_next l (by omega)]))) ⟨rfl, rfl, rfl, rfl, rfl, rfl, rfl, trivial⟩)
            · omega
            · omega
          · refine eff_s rfl rfl rfl (opE_pure (w_aidx 0 rfl Try.underlying24 Try.sizeOf43 (ev_tmp rfl) rfl (ev_tmp rfl) (by first | omega | ((try simp only [List.length_map, List.length_take, List.length_cons, List.length_nil, chunks_len, szR] at *); omega) | (have hc2 := hc; simp only [Bool.and_eq_true, Bool.or_eq_true, Bool.or_eq_false_iff, Bool.and_eq_false_iff, Bool.not_eq_true', Bool.not_eq_false', decide_eq_true_eq, decide_eq_false_iff_not, beq_iff_eq, bne_iff_ne, List.length_map, List.length_take] at hc2; omega)) (by first | omega | ((try simp only [List.length_map, List.length_take, List.length_cons, List.length_nil, chunks_len, szR] at *); omega) | (have hc2 := hc; simp only [Bool.and_eq_true, Bool.or_eq_true, Bool.or_eq_false_iff, Bool.and_eq_false_iff, Bool.not_eq_true', Bool.not_eq_false', decide_eq_true_eq, decide_eq_false_iff_not, beq_iff_eq, bne_iff_ne, List.length_map, List.length_take] at hc2; omega)))) (fun a _ => (by first | exact invx_mk rfl | exact invx_mk (List.append_assoc _ _ _) | exact invx_all)) ?_
            intro _ _
            refine bt_e2 ?_ ?_
            · refine eff_s rfl rfl rfl (opE_pure (w_loadX 0 rfl (ev_tmp rfl) rfl Try.isAgg43 Try.sizeOf43 (by rw [show ((k : Int) + 1).toNat = k + 1 by omega, List.getElem?_map, hy1]; rfl) (by decide))) (fun a _ => (by first | exact invx_mk rfl | exact invx_mk (List.append_assoc _ _ _) | exact invx_all)) ?_
              intro _ _
              refine bt_e1 ?_
              refine eff_s rfl rfl rfl (opE_pure (w_loadX 0 rfl (ev_tmp rfl) rfl Try.isAgg43 Try.sizeOf43 (by rw [Int.toNat_natCast, List.getElem?_map, hx1]; rfl) (by decide))) (fun a _ => (by first | exact invx_mk rfl | exact invx_mk (List.append_assoc _ _ _) | exact invx_all)) ?_
              intro _ _
              refine bt_e1 ?_
              refine eff_s rfl rfl rfl (opE_pure (w_aidx 0 rfl Try.underlying24 Try.sizeOf43 (ev_tmp rfl) rfl (ev_tmp rfl) (by first | omega | ((try simp only [List.length_map, List.length_take, List.length_cons, List.length_nil, chunks_len, szR] at *); omega) | (have hc2 := hc; simp only [Bool.and_eq_true, Bool.or_eq_true, Bool.or_eq_false_iff, Bool.and_eq_false_iff, Bool.not_eq_true', Bool.not_eq_false', decide_eq_true_eq, decide_eq_false_iff_not, beq_iff_eq, bne_iff_ne, List.length_map, List.length_take] at hc2; omega)) (by first | omega | ((try simp only [List.length_map, List.length_take, List.length_cons, List.length_nil, chunks_len, szR] at *); omega) | (have hc2 := hc; simp only [Bool.and_eq_true, Bool.or_eq_true, Bool.or_eq_false_iff, Bool.and_eq_false_iff, Bool.not_eq_true', Bool.not_eq_false', decide_eq_true_eq, decide_eq_false_iff_not, beq_iff_eq, bne_iff_ne, List.length_map, List.length_take] at hc2; omega)))) (fun a _ => (by first | exact invx_mk rfl | exact invx_mk (List.append_assoc _ _ _) | exact invx_all)) ?_
              intro _ _
              refine bt_e1 ?_
              refine eff_s0 rfl rfl rfl (opE_storeA 0 rfl rfl (ev_tmp rfl) (ev_tmp rfl) (as_agg _) rfl Try.sizeOf43 rfl (by first | omega | ((try simp only [List.length_map, List.length_take, List.length_cons, List.length_nil, chunks_len, szR] at *); omega) | (have hc2 := hc; simp only [Bool.and_eq_true, Bool.or_eq_true, Bool.or_eq_false_iff, Bool.and_eq_false_iff, Bool.not_eq_true', Bool.not_eq_false', decide_eq_true_eq, decide_eq_false_iff_not, beq_iff_eq, bne_iff_ne, List.length_map, List.length_take] at hc2; omega))) (fun a _ => (by first | exact invx_mk rfl | exact invx_mk (List.append_assoc _ _ _) | exact invx_all)) ?_
              intro _ _
              refine bt_e1 ?_
              refine eff_s rfl rfl rfl (opE_pure (w_aidx 0 rfl Try.underlying24 Try.sizeOf43 (ev_tmp rfl) rfl (ev_tmp rfl) (by omega) (by rw [List.length_set, List.length_map]; omega))) (fun a _ => (by first | exact invx_mk rfl | exact invx_mk (List.append_assoc _ _ _) | exact invx_all)) ?_
              intro _ _
              refine bt_nil ?_
              refine sq_storeA 0 rfl rfl rfl (ev_tmp rfl) (ev_tmp rfl) (as_agg _) rfl Try.sizeOf43 rfl (by simp only [List.length_set, List.length_map]; omega) ?_
              refine sq_nil ?_
              refine awp_region ?_
              refine sq_plain rfl rfl rfl (w_move rfl (ev_tmp rfl)) ?_
              refine sq_plain rfl rfl rfl (w_addi rfl (ev_tmp rfl) ev_ci (by first | omega | ((try simp only [List.length_map, List.length_take, List.length_cons, List.length_nil, chunks_len, szR] at *); omega) | (have hc2 := hc; simp only [Bool.and_eq_true, Bool.or_eq_true, Bool.or_eq_false_iff, Bool.and_eq_false_iff, Bool.not_eq_true', Bool.not_eq_false', decide_eq_true_eq, decide_eq_false_iff_not, beq_iff_eq, bne_iff_ne, List.length_map, List.length_take] at hc2; omega))) ?_
              refine sq_plain rfl rfl rfl (w_assign rfl (ev_tmp rfl)) ?_
              refine sq_nil ?_
              refine round_end k (k + 1) ?_ ?_ (le_eq (by (rw [show ((k : Int) + 1).toNat = k + 1 by omega, Int.toNat_natCast]; exact congrArg (fun z => [Own.arr v 43 5 z]) (by rw [← List.map_set, ← List.map_set, swp_eq hx1 hy1, upR_next l (by omega)]))) ⟨rfl, rfl, rfl, rfl, rfl, rfl, rfl, trivial⟩)
              · omega
              · omega
            · refine eff_s rfl rfl rfl (opE_pure (w_loadX 0 rfl (ev_tmp rfl) rfl Try.isAgg43 Try.sizeOf43 (by rw [Int.toNat_natCast, List.getElem?_map, hx1]; rfl) (by decide))) (fun a _ => (by first | exact invx_mk rfl | exact invx_mk (List.append_assoc _ _ _) | exact invx_all)) ?_
              intro _ _
              refine bt_e1 ?_
              refine eff_s rfl rfl rfl (opE_pure (w_loadX 0 rfl (ev_tmp rfl) rfl Try.isAgg43 Try.sizeOf43 (by rw [show ((k : Int) + 1).toNat = k + 1 by omega, List.getElem?_map, hy1]; rfl) (by decide))) (fun a _ => (by first | exact invx_mk rfl | exact invx_mk (List.append_assoc _ _ _) | exact invx_all)) ?_
              intro _ _
              refine bt_e1 ?_
              refine eff_s rfl rfl rfl (opE_pure (w_aidx 0 rfl Try.underlying24 Try.sizeOf43 (ev_tmp rfl) rfl (ev_tmp rfl) (by first | omega | ((try simp only [List.length_map, List.length_take, List.length_cons, List.length_nil, chunks_len, szR] at *); omega) | (have hc2 := hc; simp only [Bool.and_eq_true, Bool.or_eq_true, Bool.or_eq_false_iff, Bool.and_eq_false_iff, Bool.not_eq_true', Bool.not_eq_false', decide_eq_true_eq, decide_eq_false_iff_not, beq_iff_eq, bne_iff_ne, List.length_map, List.length_take] at hc2; omega)) (by first | omega | ((try simp only [List.length_map, List.length_take, List.length_cons, List.length_nil, chunks_len, szR] at *); omega) | (have hc2 := hc; simp only [Bool.and_eq_true, Bool.or_eq_true, Bool.or_eq_false_iff, Bool.and_eq_false_iff, Bool.not_eq_true', Bool.not_eq_false', decide_eq_true_eq, decide_eq_false_iff_not, beq_iff_eq, bne_iff_ne, List.length_map, List.length_take] at hc2; omega)))) (fun a _ => (by first | exact invx_mk rfl | exact invx_mk (List.append_assoc _ _ _) | exact invx_all)) ?_
              intro _ _
              refine bt_e1 ?_
              refine eff_s0 rfl rfl rfl (opE_storeA 0 rfl rfl (ev_tmp rfl) (ev_tmp rfl) (as_agg _) rfl Try.sizeOf43 rfl (by first | omega | ((try simp only [List.length_map, List.length_take, List.length_cons, List.length_nil, chunks_len, szR] at *); omega) | (have hc2 := hc; simp only [Bool.and_eq_true, Bool.or_eq_true, Bool.or_eq_false_iff, Bool.and_eq_false_iff, Bool.not_eq_true', Bool.not_eq_false', decide_eq_true_eq, decide_eq_false_iff_not, beq_iff_eq, bne_iff_ne, List.length_map, List.length_take] at hc2; omega))) (fun a _ => (by first | exact invx_mk rfl | exact invx_mk (List.append_assoc _ _ _) | exact invx_all)) ?_
              intro _ _
              refine bt_e1 ?_
              refine eff_s rfl rfl rfl (opE_pure (w_aidx 0 rfl Try.underlying24 Try.sizeOf43 (ev_tmp rfl) rfl (ev_tmp rfl) (by omega) (by rw [List.length_set, List.length_map]; omega))) (fun a _ => (by first | exact invx_mk rfl | exact invx_mk (List.append_assoc _ _ _) | exact invx_all)) ?_
              intro _ _
              refine bt_nil ?_
              refine sq_storeA 0 rfl rfl rfl (ev_tmp rfl) (ev_tmp rfl) (as_agg _) rfl Try.sizeOf43 rfl (by simp only [List.length_set, List.length_map]; omega) ?_
              refine sq_nil ?_
              refine awp_region ?_
              refine sq_plain rfl rfl rfl (w_move rfl (ev_tmp rfl)) ?_
              refine sq_plain rfl rfl rfl (w_addi rfl (ev_tmp rfl) ev_ci (by first | omega | ((try simp only [List.length_map, List.length_take, List.length_cons, List.length_nil, chunks_len, szR] at *); omega) | (have hc2 := hc; simp only [Bool.and_eq_true, Bool.or_eq_true, Bool.or_eq_false_iff, Bool.and_eq_false_iff, Bool.not_eq_true', Bool.not_eq_false', decide_eq_true_eq, decide_eq_false_iff_not, beq_iff_eq, bne_iff_ne, List.length_map, List.length_take] at hc2; omega))) ?_
              refine sq_plain rfl rfl rfl (w_assign rfl (ev_tmp rfl)) ?_
              refine sq_nil ?_
              refine round_end k (k + 1) ?_ ?_ (le_eq (by (rw [show ((k : Int) + 1).toNat = k + 1 by omega, Int.toNat_natCast]; exact congrArg (fun z => [Own.arr v 43 5 z]) (by rw [← List.map_set, ← List.map_set, swp_eq hx1 hy1, upR_next l (by omega)]))) ⟨rfl, rfl, rfl, rfl, rfl, rfl, rfl, trivial⟩)
              · omega
              · omega
        · refine eff_s rfl rfl rfl (opE_pure (w_aidx 0 rfl Try.underlying24 Try.sizeOf43 (ev_tmp rfl) rfl (ev_tmp rfl) (by first | omega | ((try simp only [List.length_map, List.length_take, List.length_cons, List.length_nil, chunks_len, szR] at *); omega) | (have hc2 := hc; simp only [Bool.and_eq_true, Bool.or_eq_true, Bool.or_eq_false_iff, Bool.and_eq_false_iff, Bool.not_eq_true', Bool.not_eq_false', decide_eq_true_eq, decide_eq_false_iff_not, beq_iff_eq, bne_iff_ne, List.length_map, List.length_take] at hc2; omega)) (by first | omega | ((try simp only [List.length_map, List.length_take, List.length_cons, List.length_nil, chunks_len, szR] at *); omega) | (have hc2 := hc; simp only [Bool.and_eq_true, Bool.or_eq_true, Bool.or_eq_false_iff, Bool.and_eq_false_iff, Bool.not_eq_true', Bool.not_eq_false', decide_eq_true_eq, decide_eq_false_iff_not, beq_iff_eq, bne_iff_ne, List.length_map, List.length_take] at hc2; omega)))) (fun a _ => (by first | exact invx_mk rfl | exact invx_mk (List.append_assoc _ _ _) | exact invx_all)) ?_
          intro _ _
          refine bt_e2 ?_ ?_
          · refine eff_s rfl rfl rfl (opE_pure (w_aidx 0 rfl Try.underlying24 Try.sizeOf43 (ev_tmp rfl) rfl (ev_tmp rfl) (by first | omega | ((try simp only [List.length_map, List.length_take, List.length_cons, List.length_nil, chunks_len, szR] at *); omega) | (have hc2 := hc; simp only [Bool.and_eq_true, Bool.or_eq_true, Bool.or_eq_false_iff, Bool.and_eq_false_iff, Bool.not_eq_true', Bool.not_eq_false', decide_eq_true_eq, decide_eq_false_iff_not, beq_iff_eq, bne_iff_ne, List.length_map, List.length_take] at hc2; omega)) (by first | omega | ((try simp only [List.length_map, List.length_take, List.length_cons, List.length_nil, chunks_len, szR] at *); omega) | (have hc2 := hc; simp only [Bool.and_eq_true, Bool.or_eq_true, Bool.or_eq_false_iff, Bool.and_eq_false_iff, Bool.not_eq_true', Bool.not_eq_false', decide_eq_true_eq, decide_eq_false_iff_not, beq_iff_eq, bne_iff_ne, List.length_map, List.length_take] at hc2; omega)))) (fun a _ => (by first | exact invx_mk rfl | exact invx_mk (List.append_assoc _ _ _) | exact invx_all)) ?_
            intro _ _
            refine bt_e2 ?_ ?_
            · refine eff_s rfl rfl rfl (opE_pure (w_loadX 0 rfl (ev_tmp rfl) rfl Try.isAgg43 Try.sizeOf43 (by rw [show ((k : Int) + 1).toNat = k + 1 by omega, List.getElem?_map, hy1]; rfl) (by decide))) (fun a _ => (by first | exact invx_mk rfl | exact invx_mk (List.append_assoc _ _ _) | exact invx_all)) ?_
              intro _ _
              refine bt_e1 ?_
              refine eff_s rfl rfl rfl (opE_pure (w_loadX 0 rfl (ev_tmp rfl) rfl Try.isAgg43 Try.sizeOf43 (by rw [Int.toNat_natCast, List.getElem?_map, hx1]; rfl) (by decide))) (fun a _ => (by first | exact invx_mk rfl | exact invx_mk (List.append_assoc _ _ _) | exact invx_all)) ?_
              intro _ _
              refine bt_e1 ?_
              refine eff_s rfl rfl rfl (opE_pure (w_aidx 0 rfl Try.underlying24 Try.sizeOf43 (ev_tmp rfl) rfl (ev_tmp rfl) (by first | omega | ((try simp only [List.length_map, List.length_take, List.length_cons, List.length_nil, chunks_len, szR] at *); omega) | (have hc2 := hc; simp only [Bool.and_eq_true, Bool.or_eq_true, Bool.or_eq_false_iff, Bool.and_eq_false_iff, Bool.not_eq_true', Bool.not_eq_false', decide_eq_true_eq, decide_eq_false_iff_not, beq_iff_eq, bne_iff_ne, List.length_map, List.length_take] at hc2; omega)) (by first | omega | ((try simp only [List.length_map, List.length_take, List.length_cons, List.length_nil, chunks_len, szR] at *); omega) | (have hc2 := hc; simp only [Bool.and_eq_true, Bool.or_eq_true, Bool.or_eq_false_iff, Bool.and_eq_false_iff, Bool.not_eq_true', Bool.not_eq_false', decide_eq_true_eq, decide_eq_false_iff_not, beq_iff_eq, bne_iff_ne, List.length_map, List.length_take] at hc2; omega)))) (fun a _ => (by first | exact invx_mk rfl | exact invx_mk (List.append_assoc _ _ _) | exact invx_all)) ?_
              intro _ _
              refine bt_e1 ?_
              refine eff_s0 rfl rfl rfl (opE_storeA 0 rfl rfl (ev_tmp rfl) (ev_tmp rfl) (as_agg _) rfl Try.sizeOf43 rfl (by first | omega | ((try simp only [List.length_map, List.length_take, List.length_cons, List.length_nil, chunks_len, szR] at *); omega) | (have hc2 := hc; simp only [Bool.and_eq_true, Bool.or_eq_true, Bool.or_eq_false_iff, Bool.and_eq_false_iff, Bool.not_eq_true', Bool.not_eq_false', decide_eq_true_eq, decide_eq_false_iff_not, beq_iff_eq, bne_iff_ne, List.length_map, List.length_take] at hc2; omega))) (fun a _ => (by first | exact invx_mk rfl | exact invx_mk (List.append_assoc _ _ _) | exact invx_all)) ?_
              intro _ _
              refine bt_e1 ?_
              refine eff_s rfl rfl rfl (opE_pure (w_aidx 0 rfl Try.underlying24 Try.sizeOf43 (ev_tmp rfl) rfl (ev_tmp rfl) (by omega) (by rw [List.length_set, List.length_map]; omega))) (fun a _ => (by first | exact invx_mk rfl | exact invx_mk (List.append_assoc _ _ _) | exact invx_all)) ?_
              intro _ _
              refine bt_nil ?_
              refine sq_storeA 0 rfl rfl rfl (ev_tmp rfl) (ev_tmp rfl) (as_agg _) rfl Try.sizeOf43 rfl (by simp only [List.length_set, List.length_map]; omega) ?_
              refine sq_nil ?_
              refine awp_region ?_
              refine sq_plain rfl rfl rfl (w_move rfl (ev_tmp rfl)) ?_
              refine sq_plain rfl rfl rfl (w_addi rfl (ev_tmp rfl) ev_ci (by first | omega | ((try simp only [List.length_map, List.length_take, List.length_cons, List.length_nil, chunks_len, szR] at *); omega) | (have hc2 := hc; simp only [Bool.and_eq_true, Bool.or_eq_true, Bool.or_eq_false_iff, Bool.and_eq_false_iff, Bool.not_eq_true', Bool.not_eq_false', decide_eq_true_eq, decide_eq_false_iff_not, beq_iff_eq, bne_iff_ne, List.length_map, List.length_take] at hc2; omega))) ?_
              refine sq_plain rfl rfl rfl (w_assign rfl (ev_tmp rfl)) ?_
              refine sq_nil ?_
              refine round_end k (k + 1) ?_ ?_ (le_eq (by (rw [show ((k : Int) + 1).toNat = k + 1 by omega, Int.toNat_natCast]; exact congrArg (fun z => [Own.arr v 43 5 z]) (by rw [← List.map_set, ← List.map_set, swp_eq hx1 hy1, upR_next l (by omega)]))) ⟨rfl, rfl, rfl, rfl, rfl, rfl, rfl, trivial⟩)
              · omega
              · omega
            · refine eff_s rfl rfl rfl (opE_pure (w_loadX 0 rfl (ev_tmp rfl) rfl Try.isAgg43 Try.sizeOf43 (by rw [Int.toNat_natCast, List.getElem?_map, hx1]; rfl) (by decide))) (fun a _ => (by first | exact invx_mk rfl | exact invx_mk (List.append_assoc _ _ _) | exact invx_all)) ?_
              intro _ _
              refine bt_e1 ?_
              refine eff_s rfl rfl rfl (opE_pure (w_loadX 0 rfl (ev_tmp rfl) rfl Try.isAgg43 Try.sizeOf43 (by rw [show ((k : Int) + 1).toNat = k + 1 by omega, List.getElem?_map, hy1]; rfl) (by decide))) (fun a _ => (by first | exact invx_mk rfl | exact invx_mk (List.append_assoc _ _ _) | exact invx_all)) ?_
              intro _ _
              refine bt_e1 ?_
              refine eff_s rfl rfl rfl (opE_pure (w_aidx 0 rfl Try.underlying24 Try.sizeOf43 (ev_tmp rfl) rfl (ev_tmp rfl) (by first | omega | ((try simp only [List.length_map, List.length_take, List.length_cons, List.length_nil, chunks_len, szR] at *); omega) | (have hc2 := hc; simp only [Bool.and_eq_true, Bool.or_eq_true, Bool.or_eq_false_iff, Bool.and_eq_false_iff, Bool.not_eq_true', Bool.not_eq_false', decide_eq_true_eq, decide_eq_false_iff_not, beq_iff_eq, bne_iff_ne, List.length_map, List.length_take] at hc2; omega)) (by first | omega | ((try simp only [List.length_map, List.length_take, List.length_cons, List.length_nil, chunks_len, szR] at *); omega) | (have hc2 := hc; simp only [Bool.and_eq_true, Bool.or_eq_true, Bool.or_eq_false_iff, Bool.and_eq_false_iff, Bool.not_eq_true', Bool.not_eq_false', decide_eq_true_eq, decide_eq_false_iff_not, beq_iff_eq, bne_iff_ne, List.length_map, List.length_take] at hc2; omega)))) (fun a _ => (by first | exact invx_mk rfl | exact invx_mk (List.append_assoc _ _ _) | exact invx_all)) ?_
              intro _ _
              refine bt_e1 ?_
              refine eff_s0 rfl rfl rfl (opE_storeA 0 rfl rfl (ev_tmp rfl) (ev_tmp rfl) (as_agg _) rfl Try.sizeOf43 rfl (by first | omega | ((try simp only [List.length_map, List.length_take, List.length_cons, List.length_nil, chunks_len, szR] at *); omega) | (have hc2 := hc; simp only [Bool.and_eq_true, Bool.or_eq_true, Bool.or_eq_false_iff, Bool.and_eq_false_iff, Bool.not_eq_true', Bool.not_eq_false', decide_eq_true_eq, decide_eq_false_iff_not, beq_iff_eq, bne_iff_ne, List.length_map, List.length_take] at hc2; omega))) (fun a _ => (by first | exact invx_mk rfl | exact invx_mk (List.append_assoc _ _ _) | exact invx_all)) ?_
              intro _ _
              refine bt_e1 ?_
              refine eff_s rfl rfl rfl (opE_pure (w_aidx 0 rfl Try.underlying24 Try.sizeOf43 (ev_tmp rfl) rfl (ev_tmp rfl) (by omega) (by rw [List.length_set, List.length_map]; omega))) (fun a _ => (by first | exact invx_mk rfl | exact invx_mk (List.append_assoc _ _ _) | exact invx_all)) ?_
              intro _ _
              refine bt_nil ?_
              refine sq_storeA 0 rfl rfl rfl (ev_tmp rfl) (ev_tmp rfl) (as_agg _) rfl Try.sizeOf43 rfl (by simp only [List.length_set, List.length_map]; omega) ?_
              refine sq_nil ?_
              refine awp_region ?_
              refine sq_plain rfl rfl rfl (w_move rfl (ev_tmp rfl)) ?_
              refine sq_plain rfl rfl rfl (w_addi rfl (ev_tmp rfl) ev_ci (by first | omega | ((try simp only [List.length_map, List.length_take, List.length_cons, List.length_nil, chunks_len, szR] at *); omega) | (have hc2 := hc; simp only [Bool.and_eq_true, Bool.or_eq_true, Bool.or_eq_false_iff, Bool.and_eq_false_iff, Bool.not_eq_true', Bool.not_eq_false', decide_eq_true_eq, decide_eq_false_iff_not, beq_iff_eq, bne_iff_ne, List.length_map, List.length_take] at hc2; omega))) ?_
              refine sq_plain rfl rfl rfl (w_assign rfl (ev_tmp rfl)) ?_
              refine sq_nil ?_
              refine round_end k (k + 1) ?_ ?_ (le_eq (by (rw [show ((k : Int) + 1).toNat = k + 1 by omega, Int.toNat_natCast]; exact congrArg (fun z => [Own.arr v 43 5 z]) (by rw [← List.map_set, ← List.map_set, swp_eq hx1 hy1, upR_next l (by omega)]))) ⟨rfl, rfl, rfl, rfl, rfl, rfl, rfl, trivial⟩)
              · omega
              · omega
          · refine eff_s rfl rfl rfl (opE_pure (w_loadX 0 rfl (ev_tmp rfl) rfl Try.isAgg43 Try.sizeOf43 (by rw [Int.toNat_natCast, List.getElem?_map, hx1]; rfl) (by decide))) (fun a _ => (by first | exact invx_mk rfl | exact invx_mk (List.append_assoc _ _ _) | exact invx_all)) ?_
            intro _ _
            refine bt_e1 ?_
            refine eff_s rfl rfl rfl (opE_pure (w_aidx 0 rfl Try.underlying24 Try.sizeOf43 (ev_tmp rfl) rfl (ev_tmp rfl) (by first | omega | ((try simp only [List.length_map, List.length_take, List.length_cons, List.length_nil, chunks_len, szR] at *); omega) | (have hc2 := hc; simp only [Bool.and_eq_true, Bool.or_eq_true, Bool.or_eq_false_iff, Bool.and_eq_false_iff, Bool.not_eq_true', Bool.not_eq_false', decide_eq_true_eq, decide_eq_false_iff_not, beq_iff_eq, bne_iff_ne, List.length_map, List.length_take] at hc2; omega)) (by first | omega | ((try simp only [List.length_map, List.length_take, List.length_cons, List.length_nil, chunks_len, szR] at *); omega) | (have hc2 := hc; simp only [Bool.and_eq_true, Bool.or_eq_true, Bool.or_eq_false_iff, Bool.and_eq_false_iff, Bool.not_eq_true', Bool.not_eq_false', decide_eq_true_eq, decide_eq_false_iff_not, beq_iff_eq, bne_iff_ne, List.length_map, List.length_take] at hc2; omega)))) (fun a _ => (by first | exact invx_mk rfl | exact invx_mk (List.append_assoc _ _ _) | exact invx_all)) ?_
            intro _ _
            refine bt_e1 ?_
            refine eff_s rfl rfl rfl (opE_pure (w_loadX 0 rfl (ev_tmp rfl) rfl Try.isAgg43 Try.sizeOf43 (by rw [show ((k : Int) + 1).toNat = k + 1 by omega, List.getElem?_map, hy1]; rfl) (by decide))) (fun a _ => (by first | exact invx_mk rfl | exact invx_mk (List.append_assoc _ _ _) | exact invx_all)) ?_
            intro _ _
            refine bt_e1 ?_
            refine eff_s rfl rfl rfl (opE_pure (w_aidx 0 rfl Try.underlying24 Try.sizeOf43 (ev_tmp rfl) rfl (ev_tmp rfl) (by first | omega | ((try simp only [List.length_map, List.length_take, List.length_cons, List.length_nil, chunks_len, szR] at *); omega) | (have hc2 := hc; simp only [Bool.and_eq_true, Bool.or_eq_true, Bool.or_eq_false_iff, Bool.and_eq_false_iff, Bool.not_eq_true', Bool.not_eq_false', decide_eq_true_eq, decide_eq_false_iff_not, beq_iff_eq, bne_iff_ne, List.length_map, List.length_take] at hc2; omega)) (by first | omega | ((try simp only [List.length_map, List.length_take, List.length_cons, List.length_nil, chunks_len, szR] at *); omega) | (have hc2 := hc; simp only [Bool.and_eq_true, Bool.or_eq_true, Bool.or_eq_false_iff, Bool.and_eq_false_iff, Bool.not_eq_true', Bool.not_eq_false', decide_eq_true_eq, decide_eq_false_iff_not, beq_iff_eq, bne_iff_ne, List.length_map, List.length_take] at hc2; omega)))) (fun a _ => (by first | exact invx_mk rfl | exact invx_mk (List.append_assoc _ _ _) | exact invx_all)) ?_
            intro _ _
            refine bt_e1 ?_
            refine eff_s0 rfl rfl rfl (opE_storeA 0 rfl rfl (ev_tmp rfl) (ev_tmp rfl) (as_agg _) rfl Try.sizeOf43 rfl (by first | omega | ((try simp only [List.length_map, List.length_take, List.length_cons, List.length_nil, chunks_len, szR] at *); omega) | (have hc2 := hc; simp only [Bool.and_eq_true, Bool.or_eq_true, Bool.or_eq_false_iff, Bool.and_eq_false_iff, Bool.not_eq_true', Bool.not_eq_false', decide_eq_true_eq, decide_eq_false_iff_not, beq_iff_eq, bne_iff_ne, List.length_map, List.length_take] at hc2; omega))) (fun a _ => (by first | exact invx_mk rfl | exact invx_mk (List.append_assoc _ _ _) | exact invx_all)) ?_
            intro _ _
            refine bt_e1 ?_
            refine eff_s rfl rfl rfl (opE_pure (w_aidx 0 rfl Try.underlying24 Try.sizeOf43 (ev_tmp rfl) rfl (ev_tmp rfl) (by omega) (by rw [List.length_set, List.length_map]; omega))) (fun a _ => (by first | exact invx_mk rfl | exact invx_mk (List.append_assoc _ _ _) | exact invx_all)) ?_
            intro _ _
            refine bt_nil ?_
            refine sq_storeA 0 rfl rfl rfl (ev_tmp rfl) (ev_tmp rfl) (as_agg _) rfl Try.sizeOf43 rfl (by simp only [List.length_set, List.length_map]; omega) ?_
            refine sq_nil ?_
            refine awp_region ?_
            refine sq_plain rfl rfl rfl (w_move rfl (ev_tmp rfl)) ?_
            refine sq_plain rfl rfl rfl (w_addi rfl (ev_tmp rfl) ev_ci (by first | omega | ((try simp only [List.length_map, List.length_take, List.length_cons, List.length_nil, chunks_len, szR] at *); omega) | (have hc2 := hc; simp only [Bool.and_eq_true, Bool.or_eq_true, Bool.or_eq_false_iff, Bool.and_eq_false_iff, Bool.not_eq_true', Bool.not_eq_false', decide_eq_true_eq, decide_eq_false_iff_not, beq_iff_eq, bne_iff_ne, List.length_map, List.length_take] at hc2; omega))) ?_
            refine sq_plain rfl rfl rfl (w_assign rfl (ev_tmp rfl)) ?_
            refine sq_nil ?_
            refine round_end k (k + 1) ?_ ?_ (le_eq (by (rw [show ((k : Int) + 1).toNat = k + 1 by omega, Int.toNat_natCast]; exact congrArg (fun z => [Own.arr v 43 5 z]) (by rw [← List.map_set, ← List.map_set, swp_eq hx1 hy1, upR_next l (by omega)]))) ⟨rfl, rfl, rfl, rfl, rfl, rfl, rfl, trivial⟩)
            · omega
            · omega
      · intro h58
        have k58 := of_decide_eq_false h58; try simp only [List.length_map] at k58
        have hkj : k = j - 1 := by omega
        subst hkj
        refine awp_exit ?_
        refine awp_ret ?_
        first | exact retG [0] (upR l a (j - 1 - a)) (⟨shuf_upR (by omega) (Nat.le_refl _) (by omega), by have h9 := sorted_up hs (l := l) (a := a) (q := j) (b := b) (by omega) (by omega) hb (by rw [← ham1]; exact s2) hinv0.2.1 (by rw [← ham1]; exact hinv0.2.2); rw [show j - (a + 1) = j - 1 - a by omega] at h9; exact h9⟩) rfl (by rfl) (resN rfl (by decide) rv_nil) | exact retG [0] (downR l m (m - k)) (⟨shuf_downR (by omega) (by omega) (by omega) (by omega), by rw [hbm1]; exact sorted_down hs (by omega) (by omega) (by omega) s1 hinv0.2.1 hinv0.2.2⟩) rfl (by rfl) (resN rfl (by decide) rv_nil) | exact retG [0] (x219) (⟨((ok191.1.wide (by omega) (by omega)).trans (ok205.1.wide (Nat.le_refl _) (by omega))).trans (ok219.1.wide (by omega) (Nat.le_refl _)), sorted_glue (ok219.1.sorted_out (.inl (Nat.le_refl _)) ok205.2) ok219.2 (ok219.1.cross2 (ok205.1.cross1 (by have h9 := rot_cross hs ok191.2 (by omega) (by omega) (by omega) (by omega) s1 s2 hc1 hc2; rw [hm1] at h9; exact h9)))⟩) rfl (by rfl) (resN rfl (by decide) rv_nil)
  · intro h28
    have k28 := ne_of_beqf h28; try simp only [List.length_map] at k28
    refine awp_skip ?_
    refine awp_seq ?_
    refine awp_seq ?_
    refine awp_region ?_
    refine sq_plain rfl rfl rfl (w_move rfl (ev_tmp rfl)) ?_
    refine sq_plain rfl rfl rfl (w_move rfl (ev_tmp rfl)) ?_
    refine sq_plain rfl rfl rfl (w_subi rfl (ev_tmp rfl) (ev_tmp rfl) (by first | omega | ((try simp only [List.length_map, List.length_take, List.length_cons, List.length_nil, chunks_len, szR] at *); omega) | (have hc2 := hc; simp only [Bool.and_eq_true, Bool.or_eq_true, Bool.or_eq_false_iff, Bool.and_eq_false_iff, Bool.not_eq_true', Bool.not_eq_false', decide_eq_true_eq, decide_eq_false_iff_not, beq_iff_eq, bne_iff_ne, List.length_map, List.length_take] at hc2; omega))) ?_
    refine sq_plain rfl rfl rfl (w_eql rfl (ev_tmp rfl) ev_ci) ?_
    refine sq_nil ?_
    refine awp_cond (ev_tmp rfl) ?_ ?_
    · intro h80
      have k80 := eq_of_beqt h80; try simp only [List.length_map] at k80
      have hbm1 : b = m + 1 := by omega
      refine awp_seq ?_
      refine awp_region ?_
      refine sq_plain rfl rfl rfl (w_move rfl (ev_tmp rfl)) ?_
      refine sq_plain rfl rfl rfl (w_assign rfl (ev_tmp rfl)) ?_
      refine sq_nil ?_
      refine awp_seq ?_
      refine awp_region ?_
      refine sq_plain rfl rfl rfl (w_move rfl (ev_tmp rfl)) ?_
      refine sq_plain rfl rfl rfl (w_assign rfl (ev_tmp rfl)) ?_
      refine sq_nil ?_
      refine awp_seq ?_
      refine awp_block ?_
      refine awp_loop_i2 [(0, _), (1, _), (2, _), (3, _), (4, _)] _ (fun (i : Nat) (j : Nat) => (a ≤ i ∧ i ≤ j ∧ j ≤ m) ∧ (i = a ∨ ∃ x y, l[i - 1]? = some x ∧ l[m]? = some y ∧ decide (f y x < 0) = false) ∧ (j = m ∨ ∃ x y, l[m]? = some x ∧ l[j]? = some y ∧ decide (f x y < 0) = true)) (fun (i : Nat) (j : Nat) => [.arr v 43 5 (l.map TFeedItem.cs)]) (fun (i : Nat) (j : Nat) => [(14, AV.int i), (15, AV.int j)]) (fun (i : Nat) (j : Nat) => j - i) (a) (m) ?_ (le_eq (by rfl) ⟨rfl, rfl, rfl, rfl, rfl, rfl, rfl, trivial⟩) ?_
      · exact ⟨by omega, .inl rfl, .inl rfl⟩
      intro i j hinv
      refine awp_seq ?_
      refine awp_seq ?_
      refine awp_region ?_
      refine sq_plain rfl rfl rfl (w_move rfl (ev_tmp rfl)) ?_
      refine sq_plain rfl rfl rfl (w_move rfl (ev_tmp rfl)) ?_
      refine sq_plain rfl rfl rfl (w_lss rfl (ev_tmp rfl) (ev_tmp rfl)) ?_
      refine sq_nil ?_
      refine awp_cond (ev_tmp rfl) ?_ ?_
      · intro h85
        have k85 := of_decide_eq_true h85; try simp only [List.length_map] at k85
        have hmid := mid_eq i j (by omega)
        obtain ⟨x, hx⟩ := get_some (show m < l.length by omega)
        obtain ⟨y, hy⟩ := get_some (show (i + j) / 2 < l.length by omega)
        refine awp_skip ?_
        refine awp_block ?_
        refine awp_seq ?_
        refine awp_region ?_
        refine sq_plain rfl rfl rfl (w_move rfl (ev_tmp rfl)) ?_
        refine sq_plain rfl rfl rfl (w_move rfl (ev_tmp rfl)) ?_
        refine sq_plain rfl rfl rfl (w_addi rfl (ev_tmp rfl) (ev_tmp rfl) (by first | omega | ((try simp only [List.length_map, List.length_take, List.length_cons, List.length_nil, chunks_len, szR] at *); omega) | (have hc2 := hc; simp only [Bool.and_eq_true, Bool.or_eq_true, Bool.or_eq_false_iff, Bool.and_eq_false_iff, Bool.not_eq_true', Bool.not_eq_false', decide_eq_true_eq, decide_eq_false_iff_not, beq_iff_eq, bne_iff_ne, List.length_map, List.length_take] at hc2; omega))) ?_
        refine sq_plain rfl rfl rfl (w_conv rfl (by kernel_rfl) Try.underlying80 (ev_tmp rfl)) ?_
        refine sq_plain rfl rfl rfl (w_shr rfl (ev_tmp rfl) ev_ci (by decide) (by decide)) ?_
        refine sq_plain rfl rfl rfl (w_conv rfl (by kernel_rfl) Try.underlying3 (ev_tmp rfl)) ?_
        refine sq_plain rfl rfl rfl (w_assign rfl (ev_tmp rfl)) ?_
        refine sq_nil ?_
        refine awp_seq ?_
        refine awp_region_any (by kernel_rfl) (by kernel_rfl) rfl ?_
        refine ch_plain rfl rfl (w_move rfl (ev_tmp rfl)) ?_
        refine ch_plain rfl rfl (w_move rfl (ev_tmp rfl)) ?_
        refine ch_plain rfl rfl (w_move rfl (ev_tmp rfl)) ?_
        refine ch_plain rfl rfl (w_aidx 0 rfl Try.underlying24 Try.sizeOf43 (ev_tmp rfl) rfl (ev_tmp rfl) (by first | omega | ((try simp only [List.length_map, List.length_take, List.length_cons, List.length_nil, chunks_len, szR] at *); omega) | (have hc2 := hc; simp only [Bool.and_eq_true, Bool.or_eq_true, Bool.or_eq_false_iff, Bool.and_eq_false_iff, Bool.not_eq_true', Bool.not_eq_false', decide_eq_true_eq, decide_eq_false_iff_not, beq_iff_eq, bne_iff_ne, List.length_map, List.length_take] at hc2; omega)) (by first | omega | ((try simp only [List.length_map, List.length_take, List.length_cons, List.length_nil, chunks_len, szR] at *); omega) | (have hc2 := hc; simp only [Bool.and_eq_true, Bool.or_eq_true, Bool.or_eq_false_iff, Bool.and_eq_false_iff, Bool.not_eq_true', Bool.not_eq_false', decide_eq_true_eq, decide_eq_false_iff_not, beq_iff_eq, bne_iff_ne, List.length_map, List.length_take] at hc2; omega))) ?_
        refine ch_plain rfl rfl (w_loadX 0 rfl (ev_tmp rfl) rfl Try.isAgg43 Try.sizeOf43 (by rw [Int.toNat_natCast, List.getElem?_map, hx]; rfl) (by decide)) ?_
        refine ch_plain rfl rfl (w_move rfl (ev_tmp rfl)) ?_
        refine ch_plain rfl rfl (w_move rfl (ev_tmp rfl)) ?_
        refine ch_plain rfl rfl (w_aidx 0 rfl Try.underlying24 Try.sizeOf43 (ev_tmp rfl) rfl (ev_tmp rfl) (by first | omega | ((try simp only [List.length_map, List.length_take, List.length_cons, List.length_nil, chunks_len, szR] at *); omega) | (have hc2 := hc; simp only [Bool.and_eq_true, Bool.or_eq_true, Bool.or_eq_false_iff, Bool.and_eq_false_iff, Bool.not_eq_true', Bool.not_eq_false', decide_eq_true_eq, decide_eq_false_iff_not, beq_iff_eq, bne_iff_ne, List.length_map, List.length_take] at hc2; omega)) (by first | omega | ((try simp only [List.length_map, List.length_take, List.length_cons, List.length_nil, chunks_len, szR] at *); omega) | (have hc2 := hc; simp only [Bool.and_eq_true, Bool.or_eq_true, Bool.or_eq_false_iff, Bool.and_eq_false_iff, Bool.not_eq_true', Bool.not_eq_false', decide_eq_true_eq, decide_eq_false_iff_not, beq_iff_eq, bne_iff_ne, List.length_map, List.length_take] at hc2; omega))) ?_
        refine ch_plain rfl rfl (w_loadX 0 rfl (ev_tmp rfl) rfl Try.isAgg43 Try.sizeOf43 (by rw [hmid, Int.toNat_natCast, List.getElem?_map, hy]; rfl) (by decide)) ?_
        refine ch_plain rfl rfl (w_callv2 rfl (ev_tmp rfl) x y trivial (ev_tmp rfl) (ev_tmp rfl)) ?_
        refine ch_plain rfl rfl (w_lss rfl (ev_tmp rfl) ev_ci) ?_
        refine ch_plain rfl rfl (w_not rfl (ev_tmp rfl)) ?_
        refine ch_nil ?_
        refine awp_cond (ev_tmp rfl) ?_ ?_
        · intro h103
          refine awp_region ?_
          refine sq_plain rfl rfl rfl (w_move rfl (ev_tmp rfl)) ?_
          refine sq_plain rfl rfl rfl (w_addi rfl (ev_tmp rfl) ev_ci (by first | omega | ((try simp only [List.length_map, List.length_take, List.length_cons, List.length_nil, chunks_len, szR] at *); omega) | (have hc2 := hc; simp only [Bool.and_eq_true, Bool.or_eq_true, Bool.or_eq_false_iff, Bool.and_eq_false_iff, Bool.not_eq_true', Bool.not_eq_false', decide_eq_true_eq, decide_eq_false_iff_not, beq_iff_eq, bne_iff_ne, List.length_map, List.length_take] at hc2; omega))) ?_
          refine sq_plain rfl rfl rfl (w_assign rfl (ev_tmp rfl)) ?_
          refine sq_nil ?_
          refine blockN ?_
          refine round_end2 i j ((i + j) / 2 + 1) (j) ?_ ?_ (le_eq (by rfl) ⟨(by first | rfl | exact congrArg (fun z => some (AV.int z)) (by rw [hmid]; omega)), (by first | rfl | exact congrArg (fun z => some (AV.int z)) hmid), rfl, rfl, rfl, rfl, rfl, trivial⟩)
          · exact ⟨by omega, .inr ⟨y, x, by rw [Nat.add_sub_cancel]; exact hy, hx, by simpa using h103⟩, hinv.2.2⟩
          · omega
        · intro h103
          refine awp_region ?_
          refine sq_plain rfl rfl rfl (w_move rfl (ev_tmp rfl)) ?_
          refine sq_plain rfl rfl rfl (w_assign rfl (ev_tmp rfl)) ?_
          refine sq_nil ?_
          refine blockN ?_
          refine round_end2 i j (i) ((i + j) / 2) ?_ ?_ (le_eq (by rfl) ⟨(by first | rfl | exact congrArg (fun z => some (AV.int z)) (by rw [hmid]; omega)), (by first | rfl | exact congrArg (fun z => some (AV.int z)) hmid), rfl, rfl, rfl, rfl, rfl, trivial⟩)
          · exact ⟨by omega, hinv.2.1, .inr ⟨x, y, hx, hy, by simpa using h103⟩⟩
          · omega
      · intro h85
        have k85 := of_decide_eq_false h85; try simp only [List.length_map] at k85
        have hij : j = i := by omega
        subst hij
        have hinv0 := hinv
        refine awp_exit ?_
        refine awp_seq ?_
        refine awp_seq ?_
        refine awp_region ?_
        refine sq_plain rfl rfl rfl (w_move rfl (ev_tmp rfl)) ?_
        refine sq_plain rfl rfl rfl (w_assign rfl (ev_tmp rfl)) ?_
        refine sq_nil ?_
        refine awp_block ?_
        refine awp_loop_i [(0, _), (1, _), (2, _), (3, _), (4, _), (14, _)] _ (fun (k : Nat) => j ≤ k ∧ k ≤ m) (fun (k : Nat) => [.arr v 43 5 ((downR l m (m - k)).map TFeedItem.cs)]) (fun (k : Nat) => [(17, AV.int k)]) (fun (k : Nat) => k) (m) ?_ (le_eq (by (rw [Nat.sub_self]; rfl)) ⟨rfl, rfl, rfl, rfl, rfl, rfl, rfl, trivial⟩) ?_
        · omega
        intro k hinv
        have hdl := downR_len l m (m - k)
        refine awp_seq ?_
        refine awp_seq ?_
        refine awp_region ?_
        refine sq_plain rfl rfl rfl (w_move rfl (ev_tmp rfl)) ?_
        refine sq_plain rfl rfl rfl (w_move rfl (ev_tmp rfl)) ?_
        refine sq_plain rfl rfl rfl (w_gtr rfl (ev_tmp rfl) (ev_tmp rfl)) ?_
        refine sq_nil ?_
        refine awp_cond (ev_tmp rfl) ?_ ?_
        · intro h110
          have k110 := of_decide_eq_true h110; try simp only [List.length_map] at k110
          obtain ⟨x1, hx1⟩ := get_some (show k < (downR l m (m - k)).length by omega)
          obtain ⟨y1, hy1⟩ := get_some (show k - 1 < (downR l m (m - k)).length by omega)
          refine awp_skip ?_
          refine awp_seq ?_
          refine awp_block ?_
          refine awp_region_tree [] 17 (.pure 0 (.pure 1 (.pure 2 (.pure 3 (.pure 4 (.pure 5 (.pure 6 (.pure 7 (.pure 10 (.pure 11 (.e2 8 (.e2 9 (.e1 12 (.e1 13 (.e1 14 (.e1 15 (.e1 16 .nil))))) 12 (.e2 9 (.e1 13 (.e1 14 (.e1 15 (.e1 16 .nil)))) 13 (.e1 9 (.e1 14 (.e1 15 (.e1 16 .nil)))))) 12 (.e2 8 (.e2 9 (.e1 13 (.e1 14 (.e1 15 (.e1 16 .nil)))) 13 (.e1 9 (.e1 14 (.e1 15 (.e1 16 .nil))))) 13 (.e1 8 (.e1 9 (.e1 14 (.e1 15 (.e1 16 .nil))))))))))))))))) (by kernel_rfl) (by kernel_rfl) rfl invx_all ?_
          refine bt_plain rfl rfl rfl (fun ext => w_move rfl (ev_tmp rfl)) ?_
          refine bt_plain rfl rfl rfl (fun ext => w_move rfl (ev_tmp rfl)) ?_
          refine bt_plain rfl rfl rfl (fun ext => w_move rfl (ev_tmp rfl)) ?_
          refine bt_plain rfl rfl rfl (fun ext => w_move rfl (ev_tmp rfl)) ?_
          refine bt_plain rfl rfl rfl (fun ext => w_subi rfl (ev_tmp rfl) ev_ci (by first | omega | ((try simp only [List.length_map, List.length_take, List.length_cons, List.length_nil, chunks_len, szR] at *); omega) | (have hc2 := hc; simp only [Bool.and_eq_true, Bool.or_eq_true, Bool.or_eq_false_iff, Bool.and_eq_false_iff, Bool.not_eq_true', Bool.not_eq_false', decide_eq_true_eq, decide_eq_false_iff_not, beq_iff_eq, bne_iff_ne, List.length_map, List.length_take] at hc2; omega))) ?_
          refine bt_plain rfl rfl rfl (fun ext => w_move rfl (ev_tmp rfl)) ?_
          refine bt_plain rfl rfl rfl (fun ext => w_move rfl (ev_tmp rfl)) ?_
          refine bt_plain rfl rfl rfl (fun ext => w_subi rfl (ev_tmp rfl) ev_ci (by first | omega | ((try simp only [List.length_map, List.length_take, List.length_cons, List.length_nil, chunks_len, szR] at *); omega) | (have hc2 := hc; simp only [Bool.and_eq_true, Bool.or_eq_true, Bool.or_eq_false_iff, Bool.and_eq_false_iff, Bool.not_eq_true', Bool.not_eq_false', decide_eq_true_eq, decide_eq_false_iff_not, beq_iff_eq, bne_iff_ne, List.length_map, List.length_take] at hc2; omega))) ?_
          refine bt_plain rfl rfl rfl (fun ext => w_move rfl (ev_tmp rfl)) ?_
          refine bt_plain rfl rfl rfl (fun ext => w_move rfl (ev_tmp rfl)) ?_
          refine bt_e2 ?_ ?_
          · refine eff_s rfl rfl rfl (opE_pure (w_aidx 0 rfl Try.underlying24 Try.sizeOf43 (ev_tmp rfl) rfl (ev_tmp rfl) (by first | omega | ((try simp only [List.length_map, List.length_take, List.length_cons, List.length_nil, chunks_len, szR] at *); omega) | (have hc2 := hc; simp only [Bool.and_eq_true, Bool.or_eq_true, Bool.or_eq_false_iff, Bool.and_eq_false_iff, Bool.not_eq_true', Bool.not_eq_false', decide_eq_true_eq, decide_eq_false_iff_not, beq_iff_eq, bne_iff_ne, List.length_map, List.length_take] at hc2; omega)) (by first | omega | ((try simp only [List.length_map, List.length_take, List.length_cons, List.length_nil, chunks_len, szR] at *); omega) | (have hc2 := hc; simp only [Bool.and_eq_true, Bool.or_eq_true, Bool.or_eq_false_iff, Bool.and_eq_false_iff, Bool.not_eq_true', Bool.not_eq_false', decide_eq_true_eq, decide_eq_false_iff_not, beq_iff_eq, bne_iff_ne, List.length_map, List.length_take] at hc2; omega)))) (fun a _ => (by first | exact invx_mk rfl | exact invx_mk (List.append_assoc _ _ _) | exact invx_all)) ?_
            intro _ _
            refine bt_e2 ?_ ?_
            · refine eff_s rfl rfl rfl (opE_pure (w_loadX 0 rfl (ev_tmp rfl) rfl Try.isAgg43 Try.sizeOf43 (by rw [show ((k : Int) - 1).toNat = k - 1 by omega, List.getElem?_map, hy1]; rfl) (by decide))) (fun a _ => (by first | exact invx_mk rfl | exact invx_mk (List.append_assoc _ _ _) | exact invx_all)) ?_
              intro _ _
              refine bt_e1 ?_
              refine eff_s rfl rfl rfl (opE_pure (w_aidx 0 rfl Try.underlying24 Try.sizeOf43 (ev_tmp rfl) rfl (ev_tmp rfl) (by first | omega | ((try simp only [List.length_map, List.length_take, List.length_cons, List.length_nil, chunks_len, szR] at *); omega) | (have hc2 := hc; simp only [Bool.and_eq_true, Bool.or_eq_true, Bool.or_eq_false_iff, Bool.and_eq_false_iff, Bool.not_eq_true', Bool.not_eq_false', decide_eq_true_eq, decide_eq_false_iff_not, beq_iff_eq, bne_iff_ne, List.length_map, List.length_take] at hc2; omega)) (by first | omega | ((try simp only [List.length_map, List.length_take, List.length_cons, List.length_nil, chunks_len, szR] at *); omega) | (have hc2 := hc; simp only [Bool.and_eq_true, Bool.or_eq_true, Bool.or_eq_false_iff, Bool.and_eq_false_iff, Bool.not_eq_true', Bool.not_eq_false', decide_eq_true_eq, decide_eq_false_iff_not, beq_iff_eq, bne_iff_ne, List.length_map, List.length_take] at hc2; omega)))) (fun a _ => (by first | exact invx_mk rfl | exact invx_mk (List.append_assoc _ _ _) | exact invx_all)) ?_
              intro _ _
              refine bt_e1 ?_
              refine eff_s rfl rfl rfl (opE_pure (w_loadX 0 rfl (ev_tmp rfl) rfl Try.isAgg43 Try.sizeOf43 (by rw [Int.toNat_natCast, List.getElem?_map, hx1]; rfl) (by decide))) (fun a _ => (by first | exact invx_mk rfl | exact invx_mk (List.append_assoc _ _ _) | exact invx_all)) ?_
              intro _ _
              refine bt_e1 ?_
              refine eff_s rfl rfl rfl (opE_pure (w_aidx 0 rfl Try.underlying24 Try.sizeOf43 (ev_tmp rfl) rfl (ev_tmp rfl) (by first | omega | ((try simp only [List.length_map, List.length_take, List.length_cons, List.length_nil, chunks_len, szR] at *); omega) | (have hc2 := hc; simp only [Bool.and_eq_true, Bool.or_eq_true, Bool.or_eq_false_iff, Bool.and_eq_false_iff, Bool.not_eq_true', Bool.not_eq_false', decide_eq_true_eq, decide_eq_false_iff_not, beq_iff_eq, bne_iff_ne, List.length_map, List.length_take] at hc2; omega)) (by first | omega | ((try simp only [List.length_map, List.length_take, List.length_cons, List.length_nil, chunks_len, szR] at *); omega) | (have hc2 := hc; simp only [Bool.and_eq_true, Bool.or_eq_true, Bool.or_eq_false_iff, Bool.and_eq_false_iff, Bool.not_eq_true', Bool.not_eq_false', decide_eq_true_eq, decide_eq_false_iff_not, beq_iff_eq, bne_iff_ne, List.length_map, List.length_take] at hc2; omega)))) (fun a _ => (by first | exact invx_mk rfl | exact invx_mk (List.append_assoc _ _ _) | exact invx_all)) ?_
              intro _ _
              refine bt_e1 ?_
              refine eff_s0 rfl rfl rfl (opE_storeA 0 rfl rfl (ev_tmp rfl) (ev_tmp rfl) (as_agg _) rfl Try.sizeOf43 rfl (by first | omega | ((try simp only [List.length_map, List.length_take, List.length_cons, List.length_nil, chunks_len, szR] at *); omega) | (have hc2 := hc; simp only [Bool.and_eq_true, Bool.or_eq_true, Bool.or_eq_false_iff, Bool.and_eq_false_iff, Bool.not_eq_true', Bool.not_eq_false', decide_eq_true_eq, decide_eq_false_iff_not, beq_iff_eq, bne_iff_ne, List.length_map, List.length_take] at hc2; omega))) (fun a _ => (by first | exact invx_mk rfl | exact invx_mk (List.append_assoc _ _ _) | exact invx_all)) ?_
              intro _ _
              refine bt_e1 ?_
              refine eff_s rfl rfl rfl (opE_pure (w_aidx 0 rfl Try.underlying24 Try.sizeOf43 (ev_tmp rfl) rfl (ev_tmp rfl) (by omega) (by rw [List.length_set, List.length_map]; omega))) (fun a _ => (by first | exact invx_mk rfl | exact invx_mk (List.append_assoc _ _ _) | exact invx_all)) ?_
              intro _ _
              refine bt_nil ?_
              refine sq_storeA 0 rfl rfl rfl (ev_tmp rfl) (ev_tmp rfl) (as_agg _) rfl Try.sizeOf43 rfl (by simp only [List.length_set, List.length_map]; omega) ?_
              refine sq_nil ?_
              refine awp_region ?_
              refine sq_plain rfl rfl rfl (w_move rfl (ev_tmp rfl)) ?_
              refine sq_plain rfl rfl rfl (w_subi rfl (ev_tmp rfl) ev_ci (by first | omega | ((try simp only [List.length_map, List.length_take, List.length_cons, List.length_nil, chunks_len, szR] at *); omega) | (have hc2 := hc; simp only [Bool.and_eq_true, Bool.or_eq_true, Bool.or_eq_false_iff, Bool.and_eq_false_iff, Bool.not_eq_true', Bool.not_eq_false', decide_eq_true_eq, decide_eq_false_iff_not, beq_iff_eq, bne_iff_ne, List.length_map, List.length_take] at hc2; omega))) ?_
              refine sq_plain rfl rfl rfl (w_assign rfl (ev_tmp rfl)) ?_
              refine sq_nil ?_
              refine round_end k (k - 1) ?_ ?_ (le_eq (by (rw [show ((k : Int) - 1).toNat = k - 1 by omega, Int.toNat_natCast]; exact congrArg (fun z => [Own.arr v 43 5 z]) (by rw [← List.map_set, ← List.map_set, swp_eq hx1 hy1, downR_next l (by omega) (by omega)]))) ⟨congrArg (fun z => some (AV.int z)) (by omega), rfl, rfl, rfl, rfl, rfl, rfl, trivial⟩)
              · omega
              · omega
            · refine eff_s rfl rfl rfl (opE_pure (w_aidx 0 rfl Try.underlying24 Try.sizeOf43 (ev_tmp rfl) rfl (ev_tmp rfl) (by first | omega | ((try simp only [List.length_map, List.length_take, List.length_cons, List.length_nil, chunks_len, szR] at *); omega) | (have hc2 := hc; simp only [Bool.and_eq_true, Bool.or_eq_true, Bool.or_eq_false_iff, Bool.and_eq_false_iff, Bool.not_eq_true', Bool.not_eq_false', decide_eq_true_eq, decide_eq_false_iff_not, beq_iff_eq, bne_iff_ne, List.length_map, List.length_take] at hc2; omega)) (by first | omega | ((try simp only [List.length_map, List.length_take, List.length_cons, List.length_nil, chunks_len, szR] at *); omega) | (have hc2 := hc; simp only [Bool.and_eq_true, Bool.or_eq_true, Bool.or_eq_false_iff, Bool.and_eq_false_iff, Bool.not_eq_true', Bool.not_eq_false', decide_eq_true_eq, decide_eq_false_iff_not, beq_iff_eq, bne_iff_ne, List.length_map, List.length_take] at hc2; omega)))) (fun a _ => (by first | exact invx_mk rfl | exact invx_mk (List.append_assoc _ _ _) | exact invx_all)) ?_
              intro _ _
              refine bt_e2 ?_ ?_
              · refine eff_s rfl rfl rfl (opE_pure (w_loadX 0 rfl (ev_tmp rfl) rfl Try.isAgg43 Try.sizeOf43 (by rw [show ((k : Int) - 1).toNat = k - 1 by omega, List.getElem?_map, hy1]; rfl) (by decide))) (fun a _ => (by first | exact invx_mk rfl | exact invx_mk (List.append_assoc _ _ _) | exact invx_all)) ?_
                intro _ _
                refine bt_e1 ?_
                refine eff_s rfl rfl rfl (opE_pure (w_loadX 0 rfl (ev_tmp rfl) rfl Try.isAgg43 Try.sizeOf43 (by rw [Int.toNat_natCast, List.getElem?_map, hx1]; rfl) (by decide))) (fun a _ => (by first | exact invx_mk rfl | exact invx_mk (List.append_assoc _ _ _) | exact invx_all)) ?_
                intro _ _
                refine bt_e1 ?_
                refine eff_s rfl rfl rfl (opE_pure (w_aidx 0 rfl Try.underlying24 Try.sizeOf43 (ev_tmp rfl) rfl (ev_tmp rfl) (by first | omega | ((try simp only [List.length_map, List.length_take, List.length_cons, List.length_nil, chunks_len, szR] at *); omega) | (have hc2 := hc; simp only [Bool.and_eq_true, Bool.or_eq_true, Bool.or_eq_false_iff, Bool.and_eq_false_iff, Bool.not_eq_true', Bool.not_eq_false', decide_eq_true_eq, decide_eq_false_iff_not, beq_iff_eq, bne_iff_ne, List.length_map, List.length_take] at hc2; omega)) (by first | omega | ((try simp only [List.length_map, List.length_take, List.length_cons, List.length_nil, chunks_len, szR] at *); omega) | (have hc2 := hc; simp only [Bool.and_eq_true, Bool.or_eq_true, Bool.or_eq_false_iff, Bool.and_eq_false_iff, Bool.not_eq_true', Bool.not_eq_false', decide_eq_true_eq, decide_eq_false_iff_not, beq_iff_eq, bne_iff_ne, List.length_map, List.length_take] at hc2; omega)))) (fun a _ => (by first | exact invx_mk rfl | exact invx_mk (List.append_assoc _ _ _) | exact invx_all)) ?_
                intro _ _
                refine bt_e1 ?_
                refine eff_s0 rfl rfl rfl (opE_storeA 0 rfl rfl (ev_tmp rfl) (ev_tmp rfl) (as_agg _) rfl Try.sizeOf43 rfl (by first | omega | ((try simp only [List.length_map, List.length_take, List.length_cons, List.length_nil, chunks_len, szR] at *); omega) | (have hc2 := hc; simp only [Bool.and_eq_true, Bool.or_eq_true, Bool.or_eq_false_iff, Bool.and_eq_false_iff, Bool.not_eq_true', Bool.not_eq_false', decide_eq_true_eq, decide_eq_false_iff_not, beq_iff_eq, bne_iff_ne, List.length_map, List.length_take] at hc2; omega))) (fun a _ => (by first | exact invx_mk rfl | exact invx_mk (List.append_assoc _ _ _) | exact invx_all)) ?_
                intro _ _
                refine bt_e1 ?_
                refine eff_s rfl rfl rfl (opE_pure (w_aidx 0 rfl Try.underlying24 Try.sizeOf43 (ev_tmp rfl) rfl (ev_tmp rfl) (by omega) (by rw [List.length_set, List.length_map]; omega))) (fun a _ => (by first | exact invx_mk rfl | exact invx_mk (List.append_assoc _ _ _) | exact invx_all)) ?_
                intro _ _
                refine bt_nil ?_
                refine sq_storeA 0 rfl rfl rfl (ev_tmp rfl) (ev_tmp rfl) (as_agg _) rfl Try.sizeOf43 rfl (by simp only [List.length_set, List.length_map]; omega) ?_
                refine sq_nil ?_
                refine awp_region ?_
                refine sq_plain rfl rfl rfl (w_move rfl (ev_tmp rfl)) ?_
                refine sq_plain rfl rfl rfl (w_subi rfl (ev_tmp rfl) ev_ci (by first | omega | ((try simp only [List.length_map, List.length_take, List.length_cons, List.length_nil, chunks_len, szR] at *); omega) | (have hc2 := hc; simp only [Bool.and_eq_true, Bool.or_eq_true, Bool.or_eq_false_iff, Bool.and_eq_false_iff, Bool.not_eq_true', Bool.not_eq_false', decide_eq_true_eq, decide_eq_false_iff_not, beq_iff_eq, bne_iff_ne, List.length_map, List.length_take] at hc2; omega))) ?_
                refine sq_plain rfl rfl rfl (w_assign rfl (ev_tmp rfl)) ?_
                refine sq_nil ?_
                refine round_end k (k - 1) ?_ ?_ (le_eq (by (rw [show ((k : Int) - 1).toNat = k - 1 by omega, Int.toNat_natCast]; exact congrArg (fun z => [Own.arr v 43 5 z]) (by rw [← List.map_set, ← List.map_set, swp_eq hx1 hy1, downR_next l (by omega) (by omega)]))) ⟨congrArg (fun z => some (AV.int z)) (by omega), rfl, rfl, rfl, rfl, rfl, rfl, trivial⟩)
                · omega
                · omega
              · refine eff_s rfl rfl rfl (opE_pure (w_loadX 0 rfl (ev_tmp rfl) rfl Try.isAgg43 Try.sizeOf43 (by rw [Int.toNat_natCast, List.getElem?_map, hx1]; rfl) (by decide))) (fun a _ => (by first | exact invx_mk rfl | exact invx_mk (List.append_assoc _ _ _) | exact invx_all)) ?_
                intro _ _
                refine bt_e1 ?_
                refine eff_s rfl rfl rfl (opE_pure (w_loadX 0 rfl (ev_tmp rfl) rfl Try.isAgg43 Try.sizeOf43 (by rw [show ((k : Int) - 1).toNat = k - 1 by omega, List.getElem?_map, hy1]; rfl) (by decide))) (fun a _ => (by first | exact invx_mk rfl | exact invx_mk (List.append_assoc _ _ _) | exact invx_all)) ?_
                intro _ _
                refine bt_e1 ?_
                refine eff_s rfl rfl rfl (opE_pure (w_aidx 0 rfl Try.underlying24 Try.sizeOf43 (ev_tmp rfl) rfl (ev_tmp rfl) (by first | omega | ((try simp only [List.length_map, List.length_take, List.length_cons, List.length_nil, chunks_len, szR] at *); omega) | (have hc2 := hc; simp only [Bool.and_eq_true, Bool.or_eq_true, Bool.or_eq_false_iff, Bool.and_eq_false_iff, Bool.not_eq_true', Bool.not_eq_false', decide_eq_true_eq, decide_eq_false_iff_not, beq_iff_eq, bne_iff_ne, List.length_map, List.length_take] at hc2; omega)) (by first | omega | ((try simp only [List.length_map, List.length_take, List.length_cons, List.length_nil, chunks_len, szR] at *); omega) | (have hc2 := hc; simp only [Bool.and_eq_true, Bool.or_eq_true, Bool.or_eq_false_iff, Bool.and_eq_false_iff, Bool.not_eq_true', Bool.not_eq_false', decide_eq_true_eq, decide_eq_false_iff_not, beq_iff_eq, bne_iff_ne, List.length_map, List.length_take] at hc2; omega)))) (fun a _ => (by first | exact invx_mk rfl | exact invx_mk (List.append_assoc _ _ _) | exact invx_all)) ?_
                intro _ _
                refine bt_e1 ?_
                refine eff_s0 rfl rfl rfl (opE_storeA 0 rfl rfl (ev_tmp rfl) (ev_tmp rfl) (as_agg _) rfl Try.sizeOf43 rfl (by first | omega | ((try simp only [List.length_map, List.length_take, List.length_cons, List.length_nil, chunks_len, szR] at *); omega) | (have hc2 := hc; simp only [Bool.and_eq_true, Bool.or_eq_true, Bool.or_eq_false_iff, Bool.and_eq_false_iff, Bool.not_eq_true', Bool.not_eq_false', decide_eq_true_eq, decide_eq_false_iff_not, beq_iff_eq, bne_iff_ne, List.length_map, List.length_take] at hc2; omega))) (fun a _ => (by first | exact invx_mk rfl | exact invx_mk (List.append_assoc _ _ _) | exact invx_all)) ?_
                intro _ _
                refine bt_e1 ?_
                refine eff_s rfl rfl rfl (opE_pure (w_aidx 0 rfl Try.underlying24 Try.sizeOf43 (ev_tmp rfl) rfl (ev_tmp rfl) (by omega) (by rw [List.length_set, List.length_map]; omega))) (fun a _ => (by first | exact invx_mk rfl | exact invx_mk (List.append_assoc _ _ _) | exact invx_all)) ?_
                intro _ _
                refine bt_nil ?_
                refine sq_storeA 0 rfl rfl rfl (ev_tmp rfl) (ev_tmp rfl) (as_agg _) rfl Try.sizeOf43 rfl (by simp only [List.length_set, List.length_map]; omega) ?_
                refine sq_nil ?_
                refine awp_region ?_
                refine sq_plain rfl rfl rfl (w_move rfl (ev_tmp rfl)) ?_
                refine sq_plain rfl rfl rfl (w_subi rfl (ev_tmp rfl) ev_ci (by first | omega | ((try simp only [List.length_map, List.length_take, List.length_cons, List.length_nil, chunks_len, szR] at *); omega) | (have hc2 := hc; simp only [Bool.and_eq_true, Bool.or_eq_true, Bool.or_eq_false_iff, Bool.and_eq_false_iff, Bool.not_eq_true', Bool.not_eq_false', decide_eq_true_eq, decide_eq_false_iff_not, beq_iff_eq, bne_iff_ne, List.length_map, List.length_take] at hc2; omega))) ?_
                refine sq_plain rfl rfl rfl (w_assign rfl (ev_tmp rfl)) ?_
                refine sq_nil ?_
                refine round_end k (k - 1) ?_ ?_ (le_eq (by (rw [show ((k : Int) - 1).toNat = k - 1 by omega, Int.toNat_natCast]; exact congrArg (fun z => [Own.arr v 43 5 z]) (by rw [← List.map_set, ← List.map_set, swp_eq hx1 hy1, downR_next l (by omega) (by omega)]))) ⟨congrArg (fun z => some (AV.int z)) (by omega), rfl, rfl, rfl, rfl, rfl, rfl, trivial⟩)
                · omega
                · omega
          · refine eff_s rfl rfl rfl (opE_pure (w_aidx 0 rfl Try.underlying24 Try.sizeOf43 (ev_tmp rfl) rfl (ev_tmp rfl) (by first | omega | ((try simp only [List.length_map, List.length_take, List.length_cons, List.length_nil, chunks_len, szR] at *); omega) | (have hc2 := hc; simp only [Bool.and_eq_true, Bool.or_eq_true, Bool.or_eq_false_iff, Bool.and_eq_false_iff, Bool.not_eq_true', Bool.not_eq_false', decide_eq_true_eq, decide_eq_false_iff_not, beq_iff_eq, bne_iff_ne, List.length_map, List.length_take] at hc2; omega)) (by first | omega | ((try simp only [List.length_map, List.length_take, List.length_cons, List.length_nil, chunks_len, szR] at *); omega) | (have hc2 := hc; simp only [Bool.and_eq_true, Bool.or_eq_true, Bool.or_eq_false_iff, Bool.and_eq_false_iff, Bool.not_eq_true', Bool.not_eq_false', decide_eq_true_eq, decide_eq_false_iff_not, beq_iff_eq, bne_iff_ne, List.length_map, List.length_take] at hc2; omega)))) (fun a _ => (by first | exact invx_mk rfl | exact invx_mk (List.append_assoc _ _ _) | exact invx_all)) ?_
            intro _ _
            refine bt_e2 ?_ ?_
            · refine eff_s rfl rfl rfl (opE_pure (w_aidx 0 rfl Try.underlying24 Try.sizeOf43 (ev_tmp rfl) rfl (ev_tmp rfl) (by first | omega | ((try simp only [List.length_map, List.length_take, List.length_cons, List.length_nil, chunks_len, szR] at *); omega) | (have hc2 := hc; simp only [Bool.and_eq_true, Bool.or_eq_true, Bool.or_eq_false_iff, Bool.and_eq_false_iff, Bool.not_eq_true', Bool.not_eq_false', decide_eq_true_eq, decide_eq_false_iff_not, beq_iff_eq, bne_iff_ne, List.length_map, List.length_take] at hc2; omega)) (by first | omega | ((try simp only [List.length_map, List.length_take, List.length_cons, List.length_nil, chunks_len, szR] at *); omega) | (have hc2 := hc; simp only [Bool.and_eq_true, Bool.or_eq_true, Bool.or_eq_false_iff, Bool.and_eq_false_iff, Bool.not_eq_true', Bool.not_eq_false', decide_eq_true_eq, decide_eq_false_iff_not, beq_iff_eq, bne_iff_ne, List.length_map, List.length_take] at hc2; omega)))) (fun a _ => (by first | exact invx_mk rfl | exact invx_mk (List.append_assoc _ _ _) | exact invx_all)) ?_
              intro _ _
              refine bt_e2 ?_ ?_
              · refine eff_s rfl rfl rfl (opE_pure (w_loadX 0 rfl (ev_tmp rfl) rfl Try.isAgg43 Try.sizeOf43 (by rw [show ((k : Int) - 1).toNat = k - 1 by omega, List.getElem?_map, hy1]; rfl) (by decide))) (fun a _ => (by first | exact invx_mk rfl | exact invx_mk (List.append_assoc _ _ _) | exact invx_all)) ?_
                intro _ _
                refine bt_e1 ?_
                refine eff_s rfl rfl rfl (opE_pure (w_loadX 0 rfl (ev_tmp rfl) rfl Try.isAgg43 Try.sizeOf43 (by rw [Int.toNat_natCast, List.getElem?_map, hx1]; rfl) (by decide))) (fun a _ => (by first | exact invx_mk rfl | exact invx_mk (List.append_assoc _ _ _) | exact invx_all)) ?_
                intro _ _
                refine bt_e1 ?_
                refine eff_s rfl rfl rfl (opE_pure (w_aidx 0 rfl Try.underlying24 Try.sizeOf43 (ev_tmp rfl) rfl (ev_tmp rfl) (by first | omega | ((try simp only [List.length_map, List.length_take, List.length_cons, List.length_nil, chunks_len, szR] at *); omega) | (have hc2 := hc; simp only [Bool.and_eq_true, Bool.or_eq_true, Bool.or_eq_false_iff, Bool.and_eq_false_iff, Bool.not_eq_true', Bool.not_eq_false', decide_eq_true_eq, decide_eq_false_iff_not, beq_iff_eq, bne_iff_ne, List.length_map, List.length_take] at hc2; omega)) (by first | omega | ((try simp only [List.length_map, List.length_take, List.length_cons, List.length_nil, chunks_len, szR] at *); omega) | (have hc2 := hc; simp only [Bool.and_eq_true, Bool.or_eq_true, Bool.or_eq_false_iff, Bool.and_eq_false_iff, Bool.not_eq_true', Bool.not_eq_false', decide_eq_true_eq, decide_eq_false_iff_not, beq_iff_eq, bne_iff_ne, List.length_map, List.length_take] at hc2; omega)))) (fun a _ => (by first | exact invx_mk rfl | exact invx_mk (List.append_assoc _ _ _) | exact invx_all)) ?_
                intro _ _
                refine bt_e1 ?_
                refine eff_s0 rfl rfl rfl (opE_storeA 0 rfl rfl (ev_tmp rfl) (ev_tmp rfl) (as_agg _) rfl Try.sizeOf43 rfl (by first | omega | ((try simp only [List.length_map, List.length_take, List.length_cons, List.length_nil, chunks_len, szR] at *); omega) | (have hc2 := hc; simp only [Bool.and_eq_true, Bool.or_eq_true, Bool.or_eq_false_iff, Bool.and_eq_false_iff, Bool.not_eq_true', Bool.not_eq_false', decide_eq_true_eq, decide_eq_false_iff_not, beq_iff_eq, bne_iff_ne, List.length_map, List.length_take] at hc2; omega))) (fun a _ => (by first | exact invx_mk rfl | exact invx_mk (List.append_assoc _ _ _) | exact invx_all)) ?_
                intro _ _
                refine bt_e1 ?_
                refine eff_s rfl rfl rfl (opE_pure (w_aidx 0 rfl Try.underlying24 Try.sizeOf43 (ev_tmp rfl) rfl (ev_tmp rfl) (by omega) (by rw [List.length_set, List.length_map]; omega))) (fun a _ => (by first | exact invx_mk rfl | exact invx_mk (List.append_assoc _ _ _) | exact invx_all)) ?_
                intro _ _
                refine bt_nil ?_
                refine sq_storeA 0 rfl rfl rfl (ev_tmp rfl) (ev_tmp rfl) (as_agg _) rfl Try.sizeOf43 rfl (by simp only [List.length_set, List.length_map]; omega) ?_
                refine sq_nil ?_
                refine awp_region ?_
                refine sq_plain rfl rfl rfl (w_move rfl (ev_tmp rfl)) ?_
                refine sq_plain rfl rfl rfl (w_subi rfl (ev_tmp rfl) ev_ci (by first | omega | ((try simp only [List.length_map, List.length_take, List.length_cons, List.length_nil, chunks_len, szR] at *); omega) | (have hc2 := hc; simp only [Bool.and_eq_true, Bool.or_eq_true, Bool.or_eq_false_iff, Bool.and_eq_false_iff, Bool.not_eq_true', Bool.not_eq_false', decide_eq_true_eq, decide_eq_false_iff_not, beq_iff_eq, bne_iff_ne, List.length_map, List.length_take] at hc2; omega))) ?_
                refine sq_plain rfl rfl rfl (w_assign rfl (ev_tmp rfl)) ?_
                refine sq_nil ?_
                refine round_end k (k - 1) ?_ ?_ (le_eq (by (rw [show ((k : Int) - 1).toNat = k - 1 by omega, Int.toNat_natCast]; exact congrArg (fun z => [Own.arr v 43 5 z]) (by rw [← List.map_set, ← List.map_set, swp_eq hx1 hy1, downR_next l (by omega) (by omega)]))) ⟨congrArg (fun z => some (AV.int z)) (by omega), rfl, rfl, rfl, rfl, rfl, rfl, trivial⟩)
                · omega
                · omega
              · refine eff_s rfl rfl rfl (opE_pure (w_loadX 0 rfl (ev_tmp rfl) rfl Try.isAgg43 Try.sizeOf43 (by rw [Int.toNat_natCast, List.getElem?_map, hx1]; rfl) (by decide))) (fun a _ => (by first | exact invx_mk rfl | exact invx_mk (List.append_assoc _ _ _) | exact invx_all)) ?_
                intro _ _
                refine bt_e1 ?_
                refine eff_s rfl rfl rfl (opE_pure (w_loadX 0 rfl (ev_tmp rfl) rfl Try.isAgg43 Try.sizeOf43 (by rw [show ((k : Int) - 1).toNat = k - 1 by omega, List.getElem?_map, hy1]; rfl) (by decide))) (fun a _ => (by first | exact invx_mk rfl | exact invx_mk (List.append_assoc _ _ _) | exact invx_all)) ?_
                intro _ _
                refine bt_e1 ?_
                refine eff_s rfl rfl rfl (opE_pure (w_aidx 0 rfl Try.underlying24 Try.sizeOf43 (ev_tmp rfl) rfl (ev_tmp rfl) (by first | omega | ((try simp only [List.length_map, List.length_take, List.length_cons, List.length_nil, chunks_len, szR] at *); omega) | (have hc2 := hc; simp only [Bool.and_eq_true, Bool.or_eq_true, Bool.or_eq_false_iff, Bool.and_eq_false_iff, Bool.not_eq_true', Bool.not_eq_false', decide_eq_true_eq, decide_eq_false_iff_not, beq_iff_eq, bne_iff_ne, List.length_map, List.length_take] at hc2; omega)) (by first | omega | ((try simp only [List.length_map, List.length_take, List.length_cons, List.length_nil, chunks_len, szR] at *); omega) | (have hc2 := hc; simp only [Bool.and_eq_true, Bool.or_eq_true, Bool.or_eq_false_iff, Bool.and_eq_false_iff, Bool.not_eq_true', Bool.not_eq_false', decide_eq_true_eq, decide_eq_false_iff_not, beq_iff_eq, bne_iff_ne, List.length_map, List.length_take] at hc2; omega)))) (fun a _ => (by first | exact invx_mk rfl | exact invx_mk (List.append_assoc _ _ _) | exact invx_all)) ?_
                intro _ _
                refine bt_e1 ?_
                refine eff_s0 rfl rfl rfl (opE_storeA 0 rfl rfl (ev_tmp rfl) (ev_tmp rfl) (as_agg _) rfl Try.sizeOf43 rfl (by first | omega | ((try simp only [List.length_map, List.length_take, List.length_cons, List.length_nil, chunks_len, szR] at *); omega) | (have hc2 := hc; simp only [Bool.and_eq_true, Bool.or_eq_true, Bool.or_eq_false_iff, Bool.and_eq_false_iff, Bool.not_eq_true', Bool.not_eq_false', decide_eq_true_eq, decide_eq_false_iff_not, beq_iff_eq, bne_iff_ne, List.length_map, List.length_take] at hc2; omega))) (fun a _ => (by first | exact invx_mk rfl | exact invx_mk (List.append_assoc _ _ _) | exact invx_all)) ?_
                intro _ _
                refine bt_e1 ?_
                refine eff_s rfl rfl rfl (opE_pure (w_aidx 0 rfl Try.underlying24 Try.sizeOf43 (ev_tmp rfl) rfl (ev_tmp rfl) (by omega) (by rw [List.length_set, List.length_map]; omega))) (fun a _ => (by first | exact invx_mk rfl | exact invx_mk (List.append_assoc _ _ _) | exact invx_all)) ?_
                intro _ _
                refine bt_nil ?_
                refine sq_storeA 0 rfl rfl rfl (ev_tmp rfl) (ev_tmp rfl) (as_agg _) rfl Try.sizeOf43 rfl (by simp only [List.length_set, List.length_map]; omega) ?_
                refine sq_nil ?_
                refine awp_region ?_
                refine sq_plain rfl rfl rfl (w_move rfl (ev_tmp rfl)) ?_
                refine sq_plain rfl rfl rfl (w_subi rfl (ev_tmp rfl) ev_ci (by first | omega | ((try simp only [List.length_map, List.length_take, List.length_cons, List.length_nil, chunks_len, szR] at *); omega) | (have hc2 := hc; simp only [Bool.and_eq_true, Bool.or_eq_true, Bool.or_eq_false_iff, Bool.and_eq_false_iff, Bool.not_eq_true', Bool.not_eq_false', decide_eq_true_eq, decide_eq_false_iff_not, beq_iff_eq, bne_iff_ne, List.length_map, List.length_take] at hc2; omega))) ?_
                refine sq_plain rfl rfl rfl (w_assign rfl (ev_tmp rfl)) ?_
                refine sq_nil ?_
                refine round_end k (k - 1) ?_ ?_ (le_eq (by (rw [show ((k : Int) - 1).toNat = k - 1 by omega, Int.toNat_natCast]; exact congrArg (fun z => [Own.arr v 43 5 z]) (by rw [← List.map_set, ← List.map_set, swp_eq hx1 hy1, downR_next l (by omega) (by omega)]))) ⟨congrArg (fun z => some (AV.int z)) (by omega), rfl, rfl, rfl, rfl, rfl, rfl, trivial⟩)
                · omega
                · omega
            · refine eff_s rfl rfl rfl (opE_pure (w_loadX 0 rfl (ev_tmp rfl) rfl Try.isAgg43 Try.sizeOf43 (by rw [Int.toNat_natCast, List.getElem?_map, hx1]; rfl) (by decide))) (fun a _ => (by first | exact invx_mk rfl | exact invx_mk (List.append_assoc _ _ _) | exact invx_all)) ?_
              intro _ _
              refine bt_e1 ?_
              refine eff_s rfl rfl rfl (opE_pure (w_aidx 0 rfl Try.underlying24 Try.sizeOf43 (ev_tmp rfl) rfl (ev_tmp rfl) (by first | omega | ((try simp only [List.length_map, List.length_take, List.length_cons, List.length_nil, chunks_len, szR] at *); omega) | (have hc2 := hc; simp only [Bool.and_eq_true, Bool.or_eq_true, Bool.or_eq_false_iff, Bool.and_eq_false_iff, Bool.not_eq_true', Bool.not_eq_false', decide_eq_true_eq, decide_eq_false_iff_not, beq_iff_eq, bne_iff_ne, List.length_map, List.length_take] at hc2; omega)) (by first | omega | ((try simp only [List.length_map, List.length_take, List.length_cons, List.length_nil, chunks_len, szR] at *); omega) | (have hc2 := hc; simp only [Bool.and_eq_true, Bool.or_eq_true, Bool.or_eq_false_iff, Bool.and_eq_false_iff, Bool.not_eq_true', Bool.not_eq_false', decide_eq_true_eq, decide_eq_false_iff_not, beq_iff_eq, bne_iff_ne, List.length_map, List.length_take] at hc2; omega)))) (fun a _ => (by first | exact invx_mk rfl | exact invx_mk (List.append_assoc _ _ _) | exact invx_all)) ?_
              intro _ _
              refine bt_e1 ?_
              refine eff_s rfl rfl rfl (opE_pure (w_loadX 0 rfl (ev_tmp rfl) rfl Try.isAgg43 Try.sizeOf43 (by rw [show ((k : Int) - 1).toNat = k - 1 by omega, List.getElem?_map, hy1]; rfl) (by decide))) (fun a _ => (by first | exact invx_mk rfl | exact invx_mk (List.append_assoc _ _ _) | exact invx_all)) ?_
              intro _ _
              refine bt_e1 ?_
              refine eff_s rfl rfl rfl (opE_pure (w_aidx 0 rfl Try.underlying24 Try.sizeOf43 (ev_tmp rfl) rfl (ev_tmp rfl) (by first | omega | ((try simp only [List.length_map, List.length_take, List.length_cons, List.length_nil, chunks_len, szR] at *); omega) | (have hc2 := hc; simp only [Bool.and_eq_true, Bool.or_eq_true, Bool.or_eq_false_iff, Bool.and_eq_false_iff, Bool.not_eq_true', Bool.not_eq_false', decide_eq_true_eq, decide_eq_false_iff_not, beq_iff_eq, bne_iff_ne, List.length_map, List.length_take] at hc2; omega)) (by first | omega | ((try simp only [List.length_map, List.length_take, List.length_cons, List.length_nil, chunks_len, szR] at *); omega) | (have hc2 := hc; simp only [Bool.and_eq_true, Bool.or_eq_true, Bool.or_eq_false_iff, Bool.and_eq_false_iff, Bool.not_eq_true', Bool.not_eq_false', decide_eq_true_eq, decide_eq_false_iff_not, beq_iff_eq, bne_iff_ne, List.length_map, List.length_take] at hc2; omega)))) (fun a _ => (by first | exact invx_mk rfl | exact invx_mk (List.append_assoc _ _ _) | exact invx_all)) ?_
              intro _ _
              refine bt_e1 ?_
              refine eff_s0 rfl rfl rfl (opE_storeA 0 rfl rfl (ev_tmp rfl) (ev_tmp rfl) (as_agg _) rfl Try.sizeOf43 rfl (by first | omega | ((try simp only [List.length_map, List.length_take, List.length_cons, List.length_nil, chunks_len, szR] at *); omega) | (have hc2 := hc; simp only [Bool.and_eq_true, Bool.or_eq_true, Bool.or_eq_false_iff, Bool.and_eq_false_iff, Bool.not_eq_true', Bool.not_eq_false', decide_eq_true_eq, decide_eq_false_iff_not, beq_iff_eq, bne_iff_ne, List.length_map, List.length_take] at hc2; omega))) (fun a _ => (by first | exact invx_mk rfl | exact invx_mk (List.append_assoc _ _ _) | exact invx_all)) ?_
              intro _ _
              refine bt_e1 ?_
              refine eff_s rfl rfl rfl (opE_pure (w_aidx 0 rfl Try.underlying24 Try.sizeOf43 (ev_tmp rfl) rfl (ev_tmp rfl) (by omega) (by rw [List.length_set, List.length_map]; omega))) (fun a _ => (by first | exact invx_mk rfl | exact invx_mk (List.append_assoc _ _ _) | exact invx_all)) ?_
              intro _ _
              refine bt_nil ?_
              refine sq_storeA 0 rfl rfl rfl (ev_tmp rfl) (ev_tmp rfl) (as_agg _) rfl Try.sizeOf43 rfl (by simp only [List.length_set, List.length_map]; omega) ?_
              refine sq_nil ?_
              refine awp_region ?_
              refine sq_plain rfl rfl rfl (w_move rfl (ev_tmp rfl)) ?_
              refine sq_plain rfl rfl rfl (w_subi rfl (ev_tmp rfl) ev_ci (by first | omega | ((try simp only [List.length_map, List.length_take, List.length_cons, List.length_nil, chunks_len, szR] at *); omega) | (have hc2 := hc; simp only [Bool.and_eq_true, Bool.or_eq_true, Bool.or_eq_false_iff, Bool.and_eq_false_iff, Bool.not_eq_true', Bool.not_eq_false', decide_eq_true_eq, decide_eq_false_iff_not, beq_iff_eq, bne_iff_ne, List.length_map, List.length_take] at hc2; omega))) ?_
              refine sq_plain rfl rfl rfl (w_assign rfl (ev_tmp rfl)) ?_
              refine sq_nil ?_
              refine round_end k (k - 1) ?_ ?_ (le_eq (by (rw [show ((k : Int) - 1).toNat = k - 1 by omega, Int.toNat_natCast]; exact congrArg (fun z => [Own.arr v 43 5 z]) (by rw [← List.map_set, ← List.map_set, swp_eq hx1 hy1, downR_next l (by omega) (by omega)]))) ⟨congrArg (fun z => some (AV.int z)) (by omega), rfl, rfl, rfl, rfl, rfl, rfl, trivial⟩)
              · omega
              · omega
        · intro h110
          have k110 := of_decide_eq_false h110; try simp only [List.length_map] at k110
          have hkj : k = j := by omega
          subst hkj
          refine awp_exit ?_
          refine awp_ret ?_
          first | exact retG [0] (upR l a (j - 1 - a)) (⟨shuf_upR (by omega) (Nat.le_refl _) (by omega), by have h9 := sorted_up hs (l := l) (a := a) (q := j) (b := b) (by omega) (by omega) hb (by rw [← ham1]; exact s2) hinv0.2.1 (by rw [← ham1]; exact hinv0.2.2); rw [show j - (a + 1) = j - 1 - a by omega] at h9; exact h9⟩) rfl (by rfl) (resN rfl (by decide) rv_nil) | exact retG [0] (downR l m (m - k)) (⟨shuf_downR (by omega) (by omega) (by omega) (by omega), by rw [hbm1]; exact sorted_down hs (by omega) (by omega) (by omega) s1 hinv0.2.1 hinv0.2.2⟩) rfl (by rfl) (resN rfl (by decide) rv_nil) | exact retG [0] (x219) (⟨((ok191.1.wide (by omega) (by omega)).trans (ok205.1.wide (Nat.le_refl _) (by omega))).trans (ok219.1.wide (by omega) (Nat.le_refl _)), sorted_glue (ok219.1.sorted_out (.inl (Nat.le_refl _)) ok205.2) ok219.2 (ok219.1.cross2 (ok205.1.cross1 (by have h9 := rot_cross hs ok191.2 (by omega) (by omega) (by omega) (by omega) s1 s2 hc1 hc2; rw [hm1] at h9; exact h9)))⟩) rfl (by rfl) (resN rfl (by decide) rv_nil)
    · intro h80
      have k80 := ne_of_beqf h80; try simp only [List.length_map] at k80
      obtain ⟨mid, hmid, hmd⟩ : ∃ mid : Nat, (IntKind.wrap .i64 (IntKind.wrap .u64 ((a : Int) + (b : Int)) / 2 ^ (1 : Int).toNat)) = (mid : Int) ∧ mid = (a + b) / 2 := ⟨_, mid_eq a b (by omega), rfl⟩
      refine awp_skip ?_
      refine awp_seq ?_
      refine awp_region ?_
      refine sq_plain rfl rfl rfl (w_move rfl (ev_tmp rfl)) ?_
      refine sq_plain rfl rfl rfl (w_move rfl (ev_tmp rfl)) ?_
      refine sq_plain rfl rfl rfl (w_addi rfl (ev_tmp rfl) (ev_tmp rfl) (by first | omega | ((try simp only [List.length_map, List.length_take, List.length_cons, List.length_nil, chunks_len, szR] at *); omega) | (have hc2 := hc; simp only [Bool.and_eq_true, Bool.or_eq_true, Bool.or_eq_false_iff, Bool.and_eq_false_iff, Bool.not_eq_true', Bool.not_eq_false', decide_eq_true_eq, decide_eq_false_iff_not, beq_iff_eq, bne_iff_ne, List.length_map, List.length_take] at hc2; omega))) ?_
      refine sq_plain rfl rfl rfl (w_conv rfl (by kernel_rfl) Try.underlying80 (ev_tmp rfl)) ?_
      refine sq_plain rfl rfl rfl (w_shr rfl (ev_tmp rfl) ev_ci (by decide) (by decide)) ?_
      refine sq_plain rfl rfl rfl (w_conv rfl (by kernel_rfl) Try.underlying3 (ev_tmp rfl)) ?_
      refine sq_plain rfl rfl rfl (w_assign rfl (ev_tmp rfl)) ?_
      refine sq_nil ?_
      refine awp_seq ?_
      refine awp_region ?_
      refine sq_plain rfl rfl rfl (w_move rfl (ev_tmp rfl)) ?_
      refine sq_plain rfl rfl rfl (w_move rfl (ev_tmp rfl)) ?_
      refine sq_plain rfl rfl rfl (w_addi rfl (ev_tmp rfl) (ev_tmp rfl) (by first | omega | ((try simp only [List.length_map, List.length_take, List.length_cons, List.length_nil, chunks_len, szR] at *); omega) | (have hc2 := hc; simp only [Bool.and_eq_true, Bool.or_eq_true, Bool.or_eq_false_iff, Bool.and_eq_false_iff, Bool.not_eq_true', Bool.not_eq_false', decide_eq_true_eq, decide_eq_false_iff_not, beq_iff_eq, bne_iff_ne, List.length_map, List.length_take] at hc2; omega))) ?_
      refine sq_plain rfl rfl rfl (w_assign rfl (ev_tmp rfl)) ?_
      refine sq_nil ?_
      refine awp_seq ?_
      refine awp_region ?_
      refine sq_plain rfl rfl rfl (w_assign rfl ev_ci) ?_
      refine sq_plain rfl rfl rfl (w_assign rfl ev_ci) ?_
      refine sq_nil ?_
      refine awp_seq ?_
      refine awp_seq ?_
      refine awp_region ?_
      refine sq_plain rfl rfl rfl (w_move rfl (ev_tmp rfl)) ?_
      refine sq_plain rfl rfl rfl (w_move rfl (ev_tmp rfl)) ?_
      refine sq_plain rfl rfl rfl (w_gtr rfl (ev_tmp rfl) (ev_tmp rfl)) ?_
      refine sq_nil ?_
      refine awp_cond (ev_tmp rfl) ?_ ?_
      · intro h140
        have k140 := of_decide_eq_true h140; try simp only [List.length_map] at k140
        obtain ⟨s0, hs0⟩ : ∃ s0 : Nat, s0 = mid + m - b := ⟨_, rfl⟩
        obtain ⟨r0, hr0⟩ : ∃ r0 : Nat, r0 = mid := ⟨_, rfl⟩
        refine awp_seq ?_
        refine awp_region ?_
        refine sq_plain rfl rfl rfl (w_move rfl (ev_tmp rfl)) ?_
        refine sq_plain rfl rfl rfl (w_move rfl (ev_tmp rfl)) ?_
        refine sq_plain rfl rfl rfl (w_subi rfl (ev_tmp rfl) (ev_tmp rfl) (by first | omega | ((try simp only [List.length_map, List.length_take, List.length_cons, List.length_nil, chunks_len, szR] at *); omega) | (have hc2 := hc; simp only [Bool.and_eq_true, Bool.or_eq_true, Bool.or_eq_false_iff, Bool.and_eq_false_iff, Bool.not_eq_true', Bool.not_eq_false', decide_eq_true_eq, decide_eq_false_iff_not, beq_iff_eq, bne_iff_ne, List.length_map, List.length_take] at hc2; omega))) ?_
        refine sq_plain rfl rfl rfl (w_assign rfl (ev_tmp rfl)) ?_
        refine sq_nil ?_
        refine awp_region ?_
        refine sq_plain rfl rfl rfl (w_move rfl (ev_tmp rfl)) ?_
        refine sq_plain rfl rfl rfl (w_assign rfl (ev_tmp rfl)) ?_
        refine sq_nil ?_
        refine awp_seq ?_
        refine awp_region ?_
        refine sq_plain rfl rfl rfl (w_move rfl (ev_tmp rfl)) ?_
        refine sq_plain rfl rfl rfl (w_subi rfl (ev_tmp rfl) ev_ci (by first | omega | ((try simp only [List.length_map, List.length_take, List.length_cons, List.length_nil, chunks_len, szR] at *); omega) | (have hc2 := hc; simp only [Bool.and_eq_true, Bool.or_eq_true, Bool.or_eq_false_iff, Bool.and_eq_false_iff, Bool.not_eq_true', Bool.not_eq_false', decide_eq_true_eq, decide_eq_false_iff_not, beq_iff_eq, bne_iff_ne, List.length_map, List.length_take] at hc2; omega))) ?_
        refine sq_plain rfl rfl rfl (w_assign rfl (ev_tmp rfl)) ?_
        refine sq_nil ?_
        refine awp_seq ?_
        refine awp_block ?_
        refine awp_loop_i2 [(0, _), (1, _), (2, _), (3, _), (4, _), (18, _), (19, _), (22, _)] _ (fun (s : Nat) (r : Nat) => (s0 ≤ s ∧ s ≤ r ∧ r ≤ r0) ∧ (s = s0 ∨ ∃ x y, l[s - 1]? = some x ∧ l[mid + m - s]? = some y ∧ decide (f y x < 0) = false) ∧ (r = r0 ∨ ∃ x y, l[mid + m - 1 - r]? = some x ∧ l[r]? = some y ∧ decide (f x y < 0) = true)) (fun (s : Nat) (r : Nat) => [.arr v 43 5 (l.map TFeedItem.cs)]) (fun (s : Nat) (r : Nat) => [(20, AV.int s), (21, AV.int r)]) (fun (s : Nat) (r : Nat) => r - s) (s0) (r0) ?_ (le_eq (by rfl) ⟨congrArg (fun z => some (AV.int z)) (by omega), congrArg (fun z => some (AV.int z)) (by omega), rfl, rfl, rfl, rfl, rfl, rfl, rfl, rfl, trivial⟩) ?_
        · exact ⟨by omega, .inl rfl, .inl rfl⟩
        intro s r hinv
        refine awp_seq ?_
        refine awp_seq ?_
        refine awp_region ?_
        refine sq_plain rfl rfl rfl (w_move rfl (ev_tmp rfl)) ?_
        refine sq_plain rfl rfl rfl (w_move rfl (ev_tmp rfl)) ?_
        refine sq_plain rfl rfl rfl (w_lss rfl (ev_tmp rfl) (ev_tmp rfl)) ?_
        refine sq_nil ?_
        refine awp_cond (ev_tmp rfl) ?_ ?_
        · intro h151
          have k151 := of_decide_eq_true h151; try simp only [List.length_map] at k151
          have hmid2 := mid_eq s r (by omega)
          obtain ⟨x, hx⟩ := get_some (show mid + m - 1 - (s + r) / 2 < l.length by omega)
          obtain ⟨y, hy⟩ := get_some (show (s + r) / 2 < l.length by omega)
          refine awp_skip ?_
          refine awp_block ?_
          refine awp_seq ?_
          refine awp_region ?_
          refine sq_plain rfl rfl rfl (w_move rfl (ev_tmp rfl)) ?_
          refine sq_plain rfl rfl rfl (w_move rfl (ev_tmp rfl)) ?_
          refine sq_plain rfl rfl rfl (w_addi rfl (ev_tmp rfl) (ev_tmp rfl) (by first | omega | ((try simp only [List.length_map, List.length_take, List.length_cons, List.length_nil, chunks_len, szR] at *); omega) | (have hc2 := hc; simp only [Bool.and_eq_true, Bool.or_eq_true, Bool.or_eq_false_iff, Bool.and_eq_false_iff, Bool.not_eq_true', Bool.not_eq_false', decide_eq_true_eq, decide_eq_false_iff_not, beq_iff_eq, bne_iff_ne, List.length_map, List.length_take] at hc2; omega))) ?_
          refine sq_plain rfl rfl rfl (w_conv rfl (by kernel_rfl) Try.underlying80 (ev_tmp rfl)) ?_
          refine sq_plain rfl rfl rfl (w_shr rfl (ev_tmp rfl) ev_ci (by decide) (by decide)) ?_
          refine sq_plain rfl rfl rfl (w_conv rfl (by kernel_rfl) Try.underlying3 (ev_tmp rfl)) ?_
          refine sq_plain rfl rfl rfl (w_assign rfl (ev_tmp rfl)) ?_
          refine sq_nil ?_
          refine awp_seq ?_
          refine awp_region_any (by kernel_rfl) (by kernel_rfl) rfl ?_
          refine ch_plain rfl rfl (w_move rfl (ev_tmp rfl)) ?_
          refine ch_plain rfl rfl (w_move rfl (ev_tmp rfl)) ?_
          refine ch_plain rfl rfl (w_move rfl (ev_tmp rfl)) ?_
          refine ch_plain rfl rfl (w_move rfl (ev_tmp rfl)) ?_
          refine ch_plain rfl rfl (w_subi rfl (ev_tmp rfl) (ev_tmp rfl) (by first | omega | ((try simp only [List.length_map, List.length_take, List.length_cons, List.length_nil, chunks_len, szR] at *); omega) | (have hc2 := hc; simp only [Bool.and_eq_true, Bool.or_eq_true, Bool.or_eq_false_iff, Bool.and_eq_false_iff, Bool.not_eq_true', Bool.not_eq_false', decide_eq_true_eq, decide_eq_false_iff_not, beq_iff_eq, bne_iff_ne, List.length_map, List.length_take] at hc2; omega))) ?_
          refine ch_plain rfl rfl (w_aidx 0 rfl Try.underlying24 Try.sizeOf43 (ev_tmp rfl) rfl (ev_tmp rfl) (by first | omega | ((try simp only [List.length_map, List.length_take, List.length_cons, List.length_nil, chunks_len, szR] at *); omega) | (have hc2 := hc; simp only [Bool.and_eq_true, Bool.or_eq_true, Bool.or_eq_false_iff, Bool.and_eq_false_iff, Bool.not_eq_true', Bool.not_eq_false', decide_eq_true_eq, decide_eq_false_iff_not, beq_iff_eq, bne_iff_ne, List.length_map, List.length_take] at hc2; omega)) (by first | omega | ((try simp only [List.length_map, List.length_take, List.length_cons, List.length_nil, chunks_len, szR] at *); omega) | (have hc2 := hc; simp only [Bool.and_eq_true, Bool.or_eq_true, Bool.or_eq_false_iff, Bool.and_eq_false_iff, Bool.not_eq_true', Bool.not_eq_false', decide_eq_true_eq, decide_eq_false_iff_not, beq_iff_eq, bne_iff_ne, List.length_map, List.length_take] at hc2; omega))) ?_
          refine ch_plain rfl rfl (w_loadX 0 rfl (ev_tmp rfl) rfl Try.isAgg43 Try.sizeOf43 (by rw [hmid2, hmid, show ((mid : Int) + (m : Int) - 1 - (((s + r) / 2 : Nat) : Int)).toNat = mid + m - 1 - (s + r) / 2 by omega, List.getElem?_map, hx]; rfl) (by decide)) ?_
          refine ch_plain rfl rfl (w_move rfl (ev_tmp rfl)) ?_
          refine ch_plain rfl rfl (w_move rfl (ev_tmp rfl)) ?_
          refine ch_plain rfl rfl (w_aidx 0 rfl Try.underlying24 Try.sizeOf43 (ev_tmp rfl) rfl (ev_tmp rfl) (by first | omega | ((try simp only [List.length_map, List.length_take, List.length_cons, List.length_nil, chunks_len, szR] at *); omega) | (have hc2 := hc; simp only [Bool.and_eq_true, Bool.or_eq_true, Bool.or_eq_false_iff, Bool.and_eq_false_iff, Bool.not_eq_true', Bool.not_eq_false', decide_eq_true_eq, decide_eq_false_iff_not, beq_iff_eq, bne_iff_ne, List.length_map, List.length_take] at hc2; omega)) (by first | omega | ((try simp only [List.length_map, List.length_take, List.length_cons, List.length_nil, chunks_len, szR] at *); omega) | (have hc2 := hc; simp only [Bool.and_eq_true, Bool.or_eq_true, Bool.or_eq_false_iff, Bool.and_eq_false_iff, Bool.not_eq_true', Bool.not_eq_false', decide_eq_true_eq, decide_eq_false_iff_not, beq_iff_eq, bne_iff_ne, List.length_map, List.length_take] at hc2; omega))) ?_
          refine ch_plain rfl rfl (w_loadX 0 rfl (ev_tmp rfl) rfl Try.isAgg43 Try.sizeOf43 (by rw [hmid2, Int.toNat_natCast, List.getElem?_map, hy]; rfl) (by decide)) ?_
          refine ch_plain rfl rfl (w_callv2 rfl (ev_tmp rfl) x y trivial (ev_tmp rfl) (ev_tmp rfl)) ?_
          refine ch_plain rfl rfl (w_lss rfl (ev_tmp rfl) ev_ci) ?_
          refine ch_plain rfl rfl (w_not rfl (ev_tmp rfl)) ?_
          refine ch_nil ?_
          refine awp_cond (ev_tmp rfl) ?_ ?_
          · intro h171
            refine awp_region ?_
            refine sq_plain rfl rfl rfl (w_move rfl (ev_tmp rfl)) ?_
            refine sq_plain rfl rfl rfl (w_addi rfl (ev_tmp rfl) ev_ci (by first | omega | ((try simp only [List.length_map, List.length_take, List.length_cons, List.length_nil, chunks_len, szR] at *); omega) | (have hc2 := hc; simp only [Bool.and_eq_true, Bool.or_eq_true, Bool.or_eq_false_iff, Bool.and_eq_false_iff, Bool.not_eq_true', Bool.not_eq_false', decide_eq_true_eq, decide_eq_false_iff_not, beq_iff_eq, bne_iff_ne, List.length_map, List.length_take] at hc2; omega))) ?_
            refine sq_plain rfl rfl rfl (w_assign rfl (ev_tmp rfl)) ?_
            refine sq_nil ?_
            refine blockN ?_
            refine round_end2 s r ((s + r) / 2 + 1) (r) ?_ ?_ (le_eq (by rfl) ⟨(by first | rfl | exact congrArg (fun z => some (AV.int z)) (by rw [hmid2]; omega)), (by first | rfl | exact congrArg (fun z => some (AV.int z)) hmid2), rfl, rfl, rfl, rfl, rfl, rfl, rfl, rfl, trivial⟩)
            · exact ⟨by omega, .inr ⟨y, x, by rw [Nat.add_sub_cancel]; exact hy, by rw [show mid + m - ((s + r) / 2 + 1) = mid + m - 1 - (s + r) / 2 by omega]; exact hx, by simpa using h171⟩, hinv.2.2⟩
            · omega
          · intro h171
            refine awp_region ?_
            refine sq_plain rfl rfl rfl (w_move rfl (ev_tmp rfl)) ?_
            refine sq_plain rfl rfl rfl (w_assign rfl (ev_tmp rfl)) ?_
            refine sq_nil ?_
            refine blockN ?_
            refine round_end2 s r (s) ((s + r) / 2) ?_ ?_ (le_eq (by rfl) ⟨(by first | rfl | exact congrArg (fun z => some (AV.int z)) (by rw [hmid2]; omega)), (by first | rfl | exact congrArg (fun z => some (AV.int z)) hmid2), rfl, rfl, rfl, rfl, rfl, rfl, rfl, rfl, trivial⟩)
            · exact ⟨by omega, hinv.2.1, .inr ⟨x, y, hx, hy, by simpa using h171⟩⟩
            · omega
        · intro h151
          have k151 := of_decide_eq_false h151; try simp only [List.length_map] at k151
          have hsr : s = r := by omega
          subst hsr
          have hinv0 := hinv
          have hc1 : s = a ∨ mid + m - s = b ∨ ∃ x y, l[s - 1]? = some x ∧ l[mid + m - s]? = some y ∧ decide (f y x < 0) = false := (by rcases hinv0.2.1 with e | e; (by_cases e9 : s = a); exact .inl e9; exact .inr (.inl (by omega)); exact .inr (.inr e))
          have hc2 : s = m ∨ mid + m - s = m ∨ ∃ x y, l[mid + m - s - 1]? = some x ∧ l[s]? = some y ∧ decide (f x y < 0) = true := (by rcases hinv0.2.2 with e | e; (by_cases e9 : s = m); exact .inl e9; exact .inr (.inl (by omega)); exact .inr (.inr (by rw [show mid + m - s - 1 = mid + m - 1 - s by omega]; exact e)))
          refine awp_exit ?_
          refine awp_seq ?_
          refine awp_region ?_
          refine sq_plain rfl rfl rfl (w_move rfl (ev_tmp rfl)) ?_
          refine sq_plain rfl rfl rfl (w_move rfl (ev_tmp rfl)) ?_
          refine sq_plain rfl rfl rfl (w_subi rfl (ev_tmp rfl) (ev_tmp rfl) (by first | omega | ((try simp only [List.length_map, List.length_take, List.length_cons, List.length_nil, chunks_len, szR] at *); omega) | (have hc2 := hc; simp only [Bool.and_eq_true, Bool.or_eq_true, Bool.or_eq_false_iff, Bool.and_eq_false_iff, Bool.not_eq_true', Bool.not_eq_false', decide_eq_true_eq, decide_eq_false_iff_not, beq_iff_eq, bne_iff_ne, List.length_map, List.length_take] at hc2; omega))) ?_
          refine sq_plain rfl rfl rfl (w_assign rfl (ev_tmp rfl)) ?_
          refine sq_nil ?_
          refine awp_seq ?_
          refine awp_seq ?_
          refine awp_region ?_
          refine sq_plain rfl rfl rfl (w_move rfl (ev_tmp rfl)) ?_
          refine sq_plain rfl rfl rfl (w_move rfl (ev_tmp rfl)) ?_
          refine sq_plain rfl rfl rfl (w_lss rfl (ev_tmp rfl) (ev_tmp rfl)) ?_
          refine sq_plain rfl rfl rfl (w_move rfl (ev_tmp rfl)) ?_
          refine sq_grd rfl rfl (guard_t rfl rfl rfl) (fun hc => w_move rfl (ev_tmp rfl)) ?_
          refine sq_grd rfl rfl (guard_t rfl rfl rfl) (fun hc => w_move rfl (ev_tmp rfl)) ?_
          refine sq_grd rfl rfl (guard_t rfl rfl rfl) (fun hc => w_lss rfl (ev_whn rfl hc) (ev_whn rfl hc)) ?_
          refine sq_plain rfl rfl rfl (w_and rfl (ev_tmp rfl) (evif_w rfl)) ?_
          refine sq_nil ?_
          refine awp_cond (ev_tmp rfl) ?_ ?_
          · intro h185
            simp only [Bool.and_eq_true, decide_eq_true_eq] at h185
            refine awp_region ?_
            refine sq_plain rfl rfl rfl (w_move rfl (ev_tmp rfl)) ?_
            refine sq_plain rfl rfl rfl (w_move rfl (ev_tmp rfl)) ?_
            refine sq_plain rfl rfl rfl (w_move rfl (ev_tmp rfl)) ?_
            refine sq_plain rfl rfl rfl (w_move rfl (ev_tmp rfl)) ?_
            refine sq_plain rfl rfl rfl (w_move rfl (ev_tmp rfl)) ?_
            refine sq_callG [0] rfl rfl rfl rfl Try.call61 rfl (rotate_own v l s m (mid + m - s) _ (by omega) (by omega) (by omega) (by omega)) (evl_cons (ev_tmp rfl) (evl_cons (ev_tmp rfl) (evl_cons (ev_tmp rfl) (evl_cons (ev_tmp (congrArg (fun z => some (AV.int z)) (by rw [hmid]; omega))) (evl_cons (ev_tmp rfl) evl_nil))))) rfl ?_
            intro x191 ok191
            refine sq_nil ?_
            refine awp_seq ?_
            refine awp_seq ?_
            refine awp_region ?_
            refine sq_plain rfl rfl rfl (w_move rfl (ev_tmp rfl)) ?_
            refine sq_plain rfl rfl rfl (w_move rfl (ev_tmp rfl)) ?_
            refine sq_plain rfl rfl rfl (w_lss rfl (ev_tmp rfl) (ev_tmp rfl)) ?_
            refine sq_plain rfl rfl rfl (w_move rfl (ev_tmp rfl)) ?_
            refine sq_grd rfl rfl (guard_t rfl rfl rfl) (fun hc => w_move rfl (ev_tmp rfl)) ?_
            refine sq_grd rfl rfl (guard_t rfl rfl rfl) (fun hc => w_move rfl (ev_tmp rfl)) ?_
            refine sq_grd rfl rfl (guard_t rfl rfl rfl) (fun hc => w_lss rfl (ev_whn rfl hc) (ev_whn rfl hc)) ?_
            refine sq_plain rfl rfl rfl (w_and rfl (ev_tmp rfl) (evif_w rfl)) ?_
            refine sq_nil ?_
            refine awp_cond (ev_tmp rfl) ?_ ?_
            · intro h199
              simp only [Bool.and_eq_true, decide_eq_true_eq] at h199
              have hl1 := ok191.1.len
              have hm1 : s + (mid + m - s - m) = mid := by omega
              have t1 : SortedOn (fun x y => decide (f x y < 0)) x191 a s := ok191.2.s1 (by omega) (by omega) s1
              have t2 : SortedOn (fun x y => decide (f x y < 0)) x191 s mid := (by have h9 := ok191.2.s2 (by omega) (by omega) (by omega) s2; rw [hm1] at h9; exact h9)
              refine awp_region ?_
              refine sq_plain rfl rfl rfl (w_move rfl (ev_tmp rfl)) ?_
              refine sq_plain rfl rfl rfl (w_move rfl (ev_tmp rfl)) ?_
              refine sq_plain rfl rfl rfl (w_move rfl (ev_tmp rfl)) ?_
              refine sq_plain rfl rfl rfl (w_move rfl (ev_tmp rfl)) ?_
              refine sq_plain rfl rfl rfl (w_move rfl (ev_tmp rfl)) ?_
              refine sq_callG [0] rfl rfl rfl rfl Try.call50 rfl (ih x191 a s mid (by omega) (by omega) (by omega) (by omega) (by omega) t1 t2) (evl_cons (ev_tmp rfl) (evl_cons (ev_tmp rfl) (evl_cons (ev_tmp rfl) (evl_cons (ev_tmp (congrArg (fun z => some (AV.int z)) hmid)) (evl_cons (ev_tmp rfl) evl_nil))))) rfl ?_
              intro x205 ok205
              refine sq_nil ?_
              refine awp_seq ?_
              refine awp_region ?_
              refine sq_plain rfl rfl rfl (w_move rfl (ev_tmp rfl)) ?_
              refine sq_plain rfl rfl rfl (w_move rfl (ev_tmp rfl)) ?_
              refine sq_plain rfl rfl rfl (w_lss rfl (ev_tmp rfl) (ev_tmp rfl)) ?_
              refine sq_plain rfl rfl rfl (w_move rfl (ev_tmp rfl)) ?_
              refine sq_grd rfl rfl (guard_t rfl rfl rfl) (fun hc => w_move rfl (ev_tmp rfl)) ?_
              refine sq_grd rfl rfl (guard_t rfl rfl rfl) (fun hc => w_move rfl (ev_tmp rfl)) ?_
              refine sq_grd rfl rfl (guard_t rfl rfl rfl) (fun hc => w_lss rfl (ev_whn rfl hc) (ev_whn rfl hc)) ?_
              refine sq_plain rfl rfl rfl (w_and rfl (ev_tmp rfl) (evif_w rfl)) ?_
              refine sq_nil ?_
              refine awp_cond (ev_tmp rfl) ?_ ?_
              · intro h213
                simp only [Bool.and_eq_true, decide_eq_true_eq] at h213
                have hl2 := ok205.1.len
                have t3 : SortedOn (fun x y => decide (f x y < 0)) x205 mid (mid + m - s) := ok205.1.sorted_out (.inr (Nat.le_refl _)) (by have h9 := ok191.2.s3 (by omega) (by omega) (by omega) s1; rw [hm1] at h9; exact h9)
                have t4 : SortedOn (fun x y => decide (f x y < 0)) x205 (mid + m - s) b := ok205.1.sorted_out (.inr (by omega)) (ok191.2.s4 (by omega) (by omega) s2)
                refine awp_region ?_
                refine sq_plain rfl rfl rfl (w_move rfl (ev_tmp rfl)) ?_
                refine sq_plain rfl rfl rfl (w_move rfl (ev_tmp rfl)) ?_
                refine sq_plain rfl rfl rfl (w_move rfl (ev_tmp rfl)) ?_
                refine sq_plain rfl rfl rfl (w_move rfl (ev_tmp rfl)) ?_
                refine sq_plain rfl rfl rfl (w_move rfl (ev_tmp rfl)) ?_
                refine sq_callG [0] rfl rfl rfl rfl Try.call50 rfl (ih x205 mid (mid + m - s) b (by omega) (by omega) (by omega) (by omega) (by omega) t3 t4) (evl_cons (ev_tmp rfl) (evl_cons (ev_tmp (congrArg (fun z => some (AV.int z)) hmid)) (evl_cons (ev_tmp (congrArg (fun z => some (AV.int z)) (by rw [hmid]; omega))) (evl_cons (ev_tmp rfl) (evl_cons (ev_tmp rfl) evl_nil))))) rfl ?_
                intro x219 ok219
                refine sq_nil ?_
                first | exact retG [0] (upR l a (j - 1 - a)) (⟨shuf_upR (by omega) (Nat.le_refl _) (by omega), by have h9 := sorted_up hs (l := l) (a := a) (q := j) (b := b) (by omega) (by omega) hb (by rw [← ham1]; exact s2) hinv0.2.1 (by rw [← ham1]; exact hinv0.2.2); rw [show j - (a + 1) = j - 1 - a by omega] at h9; exact h9⟩) rfl (by rfl) (resN rfl (by decide) rv_nil) | exact retG [0] (downR l m (m - k)) (⟨shuf_downR (by omega) (by omega) (by omega) (by omega), by rw [hbm1]; exact sorted_down hs (by omega) (by omega) (by omega) s1 hinv0.2.1 hinv0.2.2⟩) rfl (by rfl) (resN rfl (by decide) rv_nil) | exact retG [0] (x219) (⟨((ok191.1.wide (by omega) (by omega)).trans (ok205.1.wide (Nat.le_refl _) (by omega))).trans (ok219.1.wide (by omega) (Nat.le_refl _)), sorted_glue (ok219.1.sorted_out (.inl (Nat.le_refl _)) ok205.2) ok219.2 (ok219.1.cross2 (ok205.1.cross1 (by have h9 := rot_cross hs ok191.2 (by omega) (by omega) (by omega) (by omega) s1 s2 hc1 hc2; rw [hm1] at h9; exact h9)))⟩) rfl (by rfl) (resN rfl (by decide) rv_nil)
              · intro h213
                have hl2 := ok205.1.len
                have t3 : SortedOn (fun x y => decide (f x y < 0)) x205 mid (mid + m - s) := ok205.1.sorted_out (.inr (Nat.le_refl _)) (by have h9 := ok191.2.s3 (by omega) (by omega) (by omega) s1; rw [hm1] at h9; exact h9)
                have t4 : SortedOn (fun x y => decide (f x y < 0)) x205 (mid + m - s) b := ok205.1.sorted_out (.inr (by omega)) (ok191.2.s4 (by omega) (by omega) s2)
                have hno3 : mid + m - s = mid ∨ mid + m - s = b := by (rw [hmid] at h213; rw [Bool.and_eq_false_iff, decide_eq_false_iff_not, decide_eq_false_iff_not] at h213; omega)
                obtain ⟨x219, e219, ok219⟩ : ∃ z : List TFeedItem, z = x205 ∧ (Shuf x205 z mid b ∧ SortedOn (fun x y => decide (f x y < 0)) z mid b) := ⟨x205, rfl, Shuf.refl _ _ _, by (rcases hno3 with e | e); (rw [e] at t4; exact t4); (rw [e] at t3; exact t3)⟩
                refine awp_own (congrArg (fun z : List TFeedItem => [Own.arr v 43 5 (z.map TFeedItem.cs)]) e219.symm) ?_
                refine awp_skip ?_
                first | exact retG [0] (upR l a (j - 1 - a)) (⟨shuf_upR (by omega) (Nat.le_refl _) (by omega), by have h9 := sorted_up hs (l := l) (a := a) (q := j) (b := b) (by omega) (by omega) hb (by rw [← ham1]; exact s2) hinv0.2.1 (by rw [← ham1]; exact hinv0.2.2); rw [show j - (a + 1) = j - 1 - a by omega] at h9; exact h9⟩) rfl (by rfl) (resN rfl (by decide) rv_nil) | exact retG [0] (downR l m (m - k)) (⟨shuf_downR (by omega) (by omega) (by omega) (by omega), by rw [hbm1]; exact sorted_down hs (by omega) (by omega) (by omega) s1 hinv0.2.1 hinv0.2.2⟩) rfl (by rfl) (resN rfl (by decide) rv_nil) | exact retG [0] (x219) (⟨((ok191.1.wide (by omega) (by omega)).trans (ok205.1.wide (Nat.le_refl _) (by omega))).trans (ok219.1.wide (by omega) (Nat.le_refl _)), sorted_glue (ok219.1.sorted_out (.inl (Nat.le_refl _)) ok205.2) ok219.2 (ok219.1.cross2 (ok205.1.cross1 (by have h9 := rot_cross hs ok191.2 (by omega) (by omega) (by omega) (by omega) s1 s2 hc1 hc2; rw [hm1] at h9; exact h9)))⟩) rfl (by rfl) (resN rfl (by decide) rv_nil)
            · intro h199
              have hl1 := ok191.1.len
              have hm1 : s + (mid + m - s - m) = mid := by omega
              have t1 : SortedOn (fun x y => decide (f x y < 0)) x191 a s := ok191.2.s1 (by omega) (by omega) s1
              have t2 : SortedOn (fun x y => decide (f x y < 0)) x191 s mid := (by have h9 := ok191.2.s2 (by omega) (by omega) (by omega) s2; rw [hm1] at h9; exact h9)
              have hno2 : s = a ∨ s = mid := by (rw [hmid] at h199; rw [Bool.and_eq_false_iff, decide_eq_false_iff_not, decide_eq_false_iff_not] at h199; omega)
              obtain ⟨x205, e205, ok205⟩ : ∃ z : List TFeedItem, z = x191 ∧ (Shuf x191 z a mid ∧ SortedOn (fun x y => decide (f x y < 0)) z a mid) := ⟨x191, rfl, Shuf.refl _ _ _, by (rcases hno2 with e | e); (rw [e] at t2; exact t2); (rw [e] at t1; exact t1)⟩
              refine awp_own (congrArg (fun z : List TFeedItem => [Own.arr v 43 5 (z.map TFeedItem.cs)]) e205.symm) ?_
              refine awp_skip ?_
              refine awp_seq ?_
              refine awp_region ?_
              refine sq_plain rfl rfl rfl (w_move rfl (ev_tmp rfl)) ?_
              refine sq_plain rfl rfl rfl (w_move rfl (ev_tmp rfl)) ?_
              refine sq_plain rfl rfl rfl (w_lss rfl (ev_tmp rfl) (ev_tmp rfl)) ?_
              refine sq_plain rfl rfl rfl (w_move rfl (ev_tmp rfl)) ?_
              refine sq_grd rfl rfl (guard_t rfl rfl rfl) (fun hc => w_move rfl (ev_tmp rfl)) ?_
              refine sq_grd rfl rfl (guard_t rfl rfl rfl) (fun hc => w_move rfl (ev_tmp rfl)) ?_
              refine sq_grd rfl rfl (guard_t rfl rfl rfl) (fun hc => w_lss rfl (ev_whn rfl hc) (ev_whn rfl hc)) ?_
              refine sq_plain rfl rfl rfl (w_and rfl (ev_tmp rfl) (evif_w rfl)) ?_
              refine sq_nil ?_
              refine awp_cond (ev_tmp rfl) ?_ ?_
              · intro h213
                simp only [Bool.and_eq_true, decide_eq_true_eq] at h213
                have hl2 := ok205.1.len
                have t3 : SortedOn (fun x y => decide (f x y < 0)) x205 mid (mid + m - s) := ok205.1.sorted_out (.inr (Nat.le_refl _)) (by have h9 := ok191.2.s3 (by omega) (by omega) (by omega) s1; rw [hm1] at h9; exact h9)
                have t4 : SortedOn (fun x y => decide (f x y < 0)) x205 (mid + m - s) b := ok205.1.sorted_out (.inr (by omega)) (ok191.2.s4 (by omega) (by omega) s2)
                refine awp_region ?_
                refine sq_plain rfl rfl rfl (w_move rfl (ev_tmp rfl)) ?_
                refine sq_plain rfl rfl rfl (w_move rfl (ev_tmp rfl)) ?_
                refine sq_plain rfl rfl rfl (w_move rfl (ev_tmp rfl)) ?_
                refine sq_plain rfl rfl rfl (w_move rfl (ev_tmp rfl)) ?_
                refine sq_plain rfl rfl rfl (w_move rfl (ev_tmp rfl)) ?_
                refine sq_callG [0] rfl rfl rfl rfl Try.call50 rfl (ih x205 mid (mid + m - s) b (by omega) (by omega) (by omega) (by omega) (by omega) t3 t4) (evl_cons (ev_tmp rfl) (evl_cons (ev_tmp (congrArg (fun z => some (AV.int z)) hmid)) (evl_cons (ev_tmp (congrArg (fun z => some (AV.int z)) (by rw [hmid]; omega))) (evl_cons (ev_tmp rfl) (evl_cons (ev_tmp rfl) evl_nil))))) rfl ?_
                intro x219 ok219
                refine sq_nil ?_
                first | exact retG [0] (upR l a (j - 1 - a)) (⟨shuf_upR (by omega) (Nat.le_refl _) (by omega), by have h9 := sorted_up hs (l := l) (a := a) (q := j) (b := b) (by omega) (by omega) hb (by rw [← ham1]; exact s2) hinv0.2.1 (by rw [← ham1]; exact hinv0.2.2); rw [show j - (a + 1) = j - 1 - a by omega] at h9; exact h9⟩) rfl (by rfl) (resN rfl (by decide) rv_nil) | exact retG [0] (downR l m (m - k)) (⟨shuf_downR (by omega) (by omega) (by omega) (by omega), by rw [hbm1]; exact sorted_down hs (by omega) (by omega) (by omega) s1 hinv0.2.1 hinv0.2.2⟩) rfl (by rfl) (resN rfl (by decide) rv_nil) | exact retG [0] (x219) (⟨((ok191.1.wide (by omega) (by omega)).trans (ok205.1.wide (Nat.le_refl _) (by omega))).trans (ok219.1.wide (by omega) (Nat.le_refl _)), sorted_glue (ok219.1.sorted_out (.inl (Nat.le_refl _)) ok205.2) ok219.2 (ok219.1.cross2 (ok205.1.cross1 (by have h9 := rot_cross hs ok191.2 (by omega) (by omega) (by omega) (by omega) s1 s2 hc1 hc2; rw [hm1] at h9; exact h9)))⟩) rfl (by rfl) (resN rfl (by decide) rv_nil)
              · intro h213
                have hl2 := ok205.1.len
                have t3 : SortedOn (fun x y => decide (f x y < 0)) x205 mid (mid + m - s) := ok205.1.sorted_out (.inr (Nat.le_refl _)) (by have h9 := ok191.2.s3 (by omega) (by omega) (by omega) s1; rw [hm1] at h9; exact h9)
                have t4 : SortedOn (fun x y => decide (f x y < 0)) x205 (mid + m - s) b := ok205.1.sorted_out (.inr (by omega)) (ok191.2.s4 (by omega) (by omega) s2)
                have hno3 : mid + m - s = mid ∨ mid + m - s = b := by (rw [hmid] at h213; rw [Bool.and_eq_false_iff, decide_eq_false_iff_not, decide_eq_false_iff_not] at h213; omega)
                obtain ⟨x219, e219, ok219⟩ : ∃ z : List TFeedItem, z = x205 ∧ (Shuf x205 z mid b ∧ SortedOn (fun x y => decide (f x y < 0)) z mid b) := ⟨x205, rfl, Shuf.refl _ _ _, by (rcases hno3 with e | e); (rw [e] at t4; exact t4); (rw [e] at t3; exact t3)⟩
                refine awp_own (congrArg (fun z : List TFeedItem => [Own.arr v 43 5 (z.map TFeedItem.cs)]) e219.symm) ?_
                refine awp_skip ?_
                first | exact retG [0] (upR l a (j - 1 - a)) (⟨shuf_upR (by omega) (Nat.le_refl _) (by omega), by have h9 := sorted_up hs (l := l) (a := a) (q := j) (b := b) (by omega) (by omega) hb (by rw [← ham1]; exact s2) hinv0.2.1 (by rw [← ham1]; exact hinv0.2.2); rw [show j - (a + 1) = j - 1 - a by omega] at h9; exact h9⟩) rfl (by rfl) (resN rfl (by decide) rv_nil) | exact retG [0] (downR l m (m - k)) (⟨shuf_downR (by omega) (by omega) (by omega) (by omega), by rw [hbm1]; exact sorted_down hs (by omega) (by omega) (by omega) s1 hinv0.2.1 hinv0.2.2⟩) rfl (by rfl) (resN rfl (by decide) rv_nil) | exact retG [0] (x219) (⟨((ok191.1.wide (by omega) (by omega)).trans (ok205.1.wide (Nat.le_refl _) (by omega))).trans (ok219.1.wide (by omega) (Nat.le_refl _)), sorted_glue (ok219.1.sorted_out (.inl (Nat.le_refl _)) ok205.2) ok219.2 (ok219.1.cross2 (ok205.1.cross1 (by have h9 := rot_cross hs ok191.2 (by omega) (by omega) (by omega) (by omega) s1 s2 hc1 hc2; rw [hm1] at h9; exact h9)))⟩) rfl (by rfl) (resN rfl (by decide) rv_nil)
          · intro h185
            have hno : s = m ∨ mid + m - s = m := by (rw [hmid] at h185; rw [Bool.and_eq_false_iff, decide_eq_false_iff_not, decide_eq_false_iff_not] at h185; omega)
            obtain ⟨x191, e191, ok191⟩ : ∃ z : List TFeedItem, z = l ∧ (Shuf l z s (mid + m - s) ∧ Rot l z s m (mid + m - s)) := ⟨l, rfl, Shuf.refl _ _ _, rot_none (by omega) (by omega) hno⟩
            refine awp_own (congrArg (fun z : List TFeedItem => [Own.arr v 43 5 (z.map TFeedItem.cs)]) e191.symm) ?_
            refine awp_skip ?_
            refine awp_seq ?_
            refine awp_seq ?_
            refine awp_region ?_
            refine sq_plain rfl rfl rfl (w_move rfl (ev_tmp rfl)) ?_
            refine sq_plain rfl rfl rfl (w_move rfl (ev_tmp rfl)) ?_
            refine sq_plain rfl rfl rfl (w_lss rfl (ev_tmp rfl) (ev_tmp rfl)) ?_
            refine sq_plain rfl rfl rfl (w_move rfl (ev_tmp rfl)) ?_
            refine sq_grd rfl rfl (guard_t rfl rfl rfl) (fun hc => w_move rfl (ev_tmp rfl)) ?_
            refine sq_grd rfl rfl (guard_t rfl rfl rfl) (fun hc => w_move rfl (ev_tmp rfl)) ?_
            refine sq_grd rfl rfl (guard_t rfl rfl rfl) (fun hc => w_lss rfl (ev_whn rfl hc) (ev_whn rfl hc)) ?_
            refine sq_plain rfl rfl rfl (w_and rfl (ev_tmp rfl) (evif_w rfl)) ?_
            refine sq_nil ?_
            refine awp_cond (ev_tmp rfl) ?_ ?_
            · intro h199
              simp only [Bool.and_eq_true, decide_eq_true_eq] at h199
              have hl1 := ok191.1.len
              have hm1 : s + (mid + m - s - m) = mid := by omega
              have t1 : SortedOn (fun x y => decide (f x y < 0)) x191 a s := ok191.2.s1 (by omega) (by omega) s1
              have t2 : SortedOn (fun x y => decide (f x y < 0)) x191 s mid := (by have h9 := ok191.2.s2 (by omega) (by omega) (by omega) s2; rw [hm1] at h9; exact h9)
              refine awp_region ?_
              refine sq_plain rfl rfl rfl (w_move rfl (ev_tmp rfl)) ?_
              refine sq_plain rfl rfl rfl (w_move rfl (ev_tmp rfl)) ?_
              refine sq_plain rfl rfl rfl (w_move rfl (ev_tmp rfl)) ?_
              refine sq_plain rfl rfl rfl (w_move rfl (ev_tmp rfl)) ?_
              refine sq_plain rfl rfl rfl (w_move rfl (ev_tmp rfl)) ?_
              refine sq_callG [0] rfl rfl rfl rfl Try.call50 rfl (ih x191 a s mid (by omega) (by omega) (by omega) (by omega) (by omega) t1 t2) (evl_cons (ev_tmp rfl) (evl_cons (ev_tmp rfl) (evl_cons (ev_tmp rfl) (evl_cons (ev_tmp (congrArg (fun z => some (AV.int z)) hmid)) (evl_cons (ev_tmp rfl) evl_nil))))) rfl ?_
              intro x205 ok205
              refine sq_nil ?_
              refine awp_seq ?_
              refine awp_region ?_
              refine sq_plain rfl rfl rfl (w_move rfl (ev_tmp rfl)) ?_
              refine sq_plain rfl rfl rfl (w_move rfl (ev_tmp rfl)) ?_
              refine sq_plain rfl rfl rfl (w_lss rfl (ev_tmp rfl) (ev_tmp rfl)) ?_
              refine sq_plain rfl rfl rfl (w_move rfl (ev_tmp rfl)) ?_
              refine sq_grd rfl rfl (guard_t rfl rfl rfl) (fun hc => w_move rfl (ev_tmp rfl)) ?_
              refine sq_grd rfl rfl (guard_t rfl rfl rfl) (fun hc => w_move rfl (ev_tmp rfl)) ?_
              refine sq_grd rfl rfl (guard_t rfl rfl rfl) (fun hc => w_lss rfl (ev_whn rfl hc) (ev_whn rfl hc)) ?_
              refine sq_plain rfl rfl rfl (w_and rfl (ev_tmp rfl) (evif_w rfl)) ?_
              refine sq_nil ?_
              refine awp_cond (ev_tmp rfl) ?_ ?_
              · intro h213
                simp only [Bool.and_eq_true, decide_eq_true_eq] at h213
                have hl2 := ok205.1.len
                have t3 : SortedOn (fun x y => decide (f x y < 0)) x205 mid (mid + m - s) := ok205.1.sorted_out (.inr (Nat.le_refl _)) (by have h9 := ok191.2.s3 (by omega) (by omega) (by omega) s1; rw [hm1] at h9; exact h9)
                have t4 : SortedOn (fun x y => decide (f x y < 0)) x205 (mid + m - s) b := ok205.1.sorted_out (.inr (by omega)) (ok191.2.s4 (by omega) (by omega) s2)
                refine awp_region ?_
                refine sq_plain rfl rfl rfl (w_move rfl (ev_tmp rfl)) ?_
                refine sq_plain rfl rfl rfl (w_move rfl (ev_tmp rfl)) ?_
                refine sq_plain rfl rfl rfl (w_move rfl (ev_tmp rfl)) ?_
                refine sq_plain rfl rfl rfl (w_move rfl (ev_tmp rfl)) ?_
                refine sq_plain rfl rfl rfl (w_move rfl (ev_tmp rfl)) ?_
                refine sq_callG [0] rfl rfl rfl rfl Try.call50 rfl (ih x205 mid (mid + m - s) b (by omega) (by omega) (by omega) (by omega) (by omega) t3 t4) (evl_cons (ev_tmp rfl) (evl_cons (ev_tmp (congrArg (fun z => some (AV.int z)) hmid)) (evl_cons (ev_tmp (congrArg (fun z => some (AV.int z)) (by rw [hmid]; omega))) (evl_cons (ev_tmp rfl) (evl_cons (ev_tmp rfl) evl_nil))))) rfl ?_
                intro x219 ok219
                refine sq_nil ?_
                first | exact retG [0] (upR l a (j - 1 - a)) (⟨shuf_upR (by omega) (Nat.le_refl _) (by omega), by have h9 := sorted_up hs (l := l) (a := a) (q := j) (b := b) (by omega) (by omega) hb (by rw [← ham1]; exact s2) hinv0.2.1 (by rw [← ham1]; exact hinv0.2.2); rw [show j - (a + 1) = j - 1 - a by omega] at h9; exact h9⟩) rfl (by rfl) (resN rfl (by decide) rv_nil) | exact retG [0] (downR l m (m - k)) (⟨shuf_downR (by omega) (by omega) (by omega) (by omega), by rw [hbm1]; exact sorted_down hs (by omega) (by omega) (by omega) s1 hinv0.2.1 hinv0.2.2⟩) rfl (by rfl) (resN rfl (by decide) rv_nil) | exact retG [0] (x219) (⟨((ok191.1.wide (by omega) (by omega)).trans (ok205.1.wide (Nat.le_refl _) (by omega))).trans (ok219.1.wide (by omega) (Nat.le_refl _)), sorted_glue (ok219.1.sorted_out (.inl (Nat.le_refl _)) ok205.2) ok219.2 (ok219.1.cross2 (ok205.1.cross1 (by have h9 := rot_cross hs ok191.2 (by omega) (by omega) (by omega) (by omega) s1 s2 hc1 hc2; rw [hm1] at h9; exact h9)))⟩) rfl (by rfl) (resN rfl (by decide) rv_nil)
              · intro h213
                have hl2 := ok205.1.len
                have t3 : SortedOn (fun x y => decide (f x y < 0)) x205 mid (mid + m - s) := ok205.1.sorted_out (.inr (Nat.le_refl _)) (by have h9 := ok191.2.s3 (by omega) (by omega) (by omega) s1; rw [hm1] at h9; exact h9)
                have t4 : SortedOn (fun x y => decide (f x y < 0)) x205 (mid + m - s) b := ok205.1.sorted_out (.inr (by omega)) (ok191.2.s4 (by omega) (by omega) s2)
                have hno3 : mid + m - s = mid ∨ mid + m - s = b := by (rw [hmid] at h213; rw [Bool.and_eq_false_iff, decide_eq_false_iff_not, decide_eq_false_iff_not] at h213; omega)
                obtain ⟨x219, e219, ok219⟩ : ∃ z : List TFeedItem, z = x205 ∧ (Shuf x205 z mid b ∧ SortedOn (fun x y => decide (f x y < 0)) z mid b) := ⟨x205, rfl, Shuf.refl _ _ _, by (rcases hno3 with e | e); (rw [e] at t4; exact t4); (rw [e] at t3; exact t3)⟩
                refine awp_own (congrArg (fun z : List TFeedItem => [Own.arr v 43 5 (z.map TFeedItem.cs)]) e219.symm) ?_
                refine awp_skip ?_
                first | exact retG [0] (upR l a (j - 1 - a)) (⟨shuf_upR (by omega) (Nat.le_refl _) (by omega), by have h9 := sorted_up hs (l := l) (a := a) (q := j) (b := b) (by omega) (by omega) hb (by rw [← ham1]; exact s2) hinv0.2.1 (by rw [← ham1]; exact hinv0.2.2); rw [show j - (a + 1) = j - 1 - a by omega] at h9; exact h9⟩) rfl (by rfl) (resN rfl (by decide) rv_nil) | exact retG [0] (downR l m (m - k)) (⟨shuf_downR (by omega) (by omega) (by omega) (by omega), by rw [hbm1]; exact sorted_down hs (by omega) (by omega) (by omega) s1 hinv0.2.1 hinv0.2.2⟩) rfl (by rfl) (resN rfl (by decide) rv_nil) | exact retG [0] (x219) (⟨((ok191.1.wide (by omega) (by omega)).trans (ok205.1.wide (Nat.le_refl _) (by omega))).trans (ok219.1.wide (by omega) (Nat.le_refl _)), sorted_glue (ok219.1.sorted_out (.inl (Nat.le_refl _)) ok205.2) ok219.2 (ok219.1.cross2 (ok205.1.cross1 (by have h9 := rot_cross hs ok191.2 (by omega) (by omega) (by omega) (by omega) s1 s2 hc1 hc2; rw [hm1] at h9; exact h9)))⟩) rfl (by rfl) (resN rfl (by decide) rv_nil)
            · intro h199
              have hl1 := ok191.1.len
              have hm1 : s + (mid + m - s - m) = mid := by omega
              have t1 : SortedOn (fun x y => decide (f x y < 0)) x191 a s := ok191.2.s1 (by omega) (by omega) s1
              have t2 : SortedOn (fun x y => decide (f x y < 0)) x191 s mid := (by have h9 := ok191.2.s2 (by omega) (by omega) (by omega) s2; rw [hm1] at h9; exact h9)
              have hno2 : s = a ∨ s = mid := by (rw [hmid] at h199; rw [Bool.and_eq_false_iff, decide_eq_false_iff_not, decide_eq_false_iff_not] at h199; omega)
              obtain ⟨x205, e205, ok205⟩ : ∃ z : List TFeedItem, z = x191 ∧ (Shuf x191 z a mid ∧ SortedOn (fun x y => decide (f x y < 0)) z a mid) := ⟨x191, rfl, Shuf.refl _ _ _, by (rcases hno2 with e | e); (rw [e] at t2; exact t2); (rw [e] at t1; exact t1)⟩
              refine awp_own (congrArg (fun z : List TFeedItem => [Own.arr v 43 5 (z.map TFeedItem.cs)]) e205.symm) ?_
              refine awp_skip ?_
              refine awp_seq ?_
              refine awp_region ?_
              refine sq_plain rfl rfl rfl (w_move rfl (ev_tmp rfl)) ?_
              refine sq_plain rfl rfl rfl (w_move rfl (ev_tmp rfl)) ?_
              refine sq_plain rfl rfl rfl (w_lss rfl (ev_tmp rfl) (ev_tmp rfl)) ?_
              refine sq_plain rfl rfl rfl (w_move rfl (ev_tmp rfl)) ?_
              refine sq_grd rfl rfl (guard_t rfl rfl rfl) (fun hc => w_move rfl (ev_tmp rfl)) ?_
              refine sq_grd rfl rfl (guard_t rfl rfl rfl) (fun hc => w_move rfl (ev_tmp rfl)) ?_
              refine sq_grd rfl rfl (guard_t rfl rfl rfl) (fun hc => w_lss rfl (ev_whn rfl hc) (ev_whn rfl hc)) ?_
              refine sq_plain rfl rfl rfl (w_and rfl (ev_tmp rfl) (evif_w rfl)) ?_
              refine sq_nil ?_
              refine awp_cond (ev_tmp rfl) ?_ ?_
              · intro h213
                simp only [Bool.and_eq_true, decide_eq_true_eq] at h213
                have hl2 := ok205.1.len
                have t3 : SortedOn (fun x y => decide (f x y < 0)) x205 mid (mid + m - s) := ok205.1.sorted_out (.inr (Nat.le_refl _)) (by have h9 := ok191.2.s3 (by omega) (by omega) (by omega) s1; rw [hm1] at h9; exact h9)
                have t4 : SortedOn (fun x y => decide (f x y < 0)) x205 (mid + m - s) b := ok205.1.sorted_out (.inr (by omega)) (ok191.2.s4 (by omega) (by omega) s2)
                refine awp_region ?_
                refine sq_plain rfl rfl rfl (w_move rfl (ev_tmp rfl)) ?_
                refine sq_plain rfl rfl rfl (w_move rfl (ev_tmp rfl)) ?_
                refine sq_plain rfl rfl rfl (w_move rfl (ev_tmp rfl)) ?_
                refine sq_plain rfl rfl rfl (w_move rfl (ev_tmp rfl)) ?_
                refine sq_plain rfl rfl rfl (w_move rfl (ev_tmp rfl)) ?_
                refine sq_callG [0] rfl rfl rfl rfl Try.call50 rfl (ih x205 mid (mid + m - s) b (by omega) (by omega) (by omega) (by omega) (by omega) t3 t4) (evl_cons (ev_tmp rfl) (evl_cons (ev_tmp (congrArg (fun z => some (AV.int z)) hmid)) (evl_cons (ev_tmp (congrArg (fun z => some (AV.int z)) (by rw [hmid]; omega))) (evl_cons (ev_tmp rfl) (evl_cons (ev_tmp rfl) evl_nil))))) rfl ?_
                intro x219 ok219
                refine sq_nil ?_
                first | exact retG [0] (upR l a (j - 1 - a)) (⟨shuf_upR (by omega) (Nat.le_refl _) (by omega), by have h9 := sorted_up hs (l := l) (a := a) (q := j) (b := b) (by omega) (by omega) hb (by rw [← ham1]; exact s2) hinv0.2.1 (by rw [← ham1]; exact hinv0.2.2); rw [show j - (a + 1) = j - 1 - a by omega] at h9; exact h9⟩) rfl (by rfl) (resN rfl (by decide) rv_nil) | exact retG [0] (downR l m (m - k)) (⟨shuf_downR (by omega) (by omega) (by omega) (by omega), by rw [hbm1]; exact sorted_down hs (by omega) (by omega) (by omega) s1 hinv0.2.1 hinv0.2.2⟩) rfl (by rfl) (resN rfl (by decide) rv_nil) | exact retG [0] (x219) (⟨((ok191.1.wide (by omega) (by omega)).trans (ok205.1.wide (Nat.le_refl _) (by omega))).trans (ok219.1.wide (by omega) (Nat.le_refl _)), sorted_glue (ok219.1.sorted_out (.inl (Nat.le_refl _)) ok205.2) ok219.2 (ok219.1.cross2 (ok205.1.cross1 (by have h9 := rot_cross hs ok191.2 (by omega) (by omega) (by omega) (by omega) s1 s2 hc1 hc2; rw [hm1] at h9; exact h9)))⟩) rfl (by rfl) (resN rfl (by decide) rv_nil)
              · intro h213
                have hl2 := ok205.1.len
                have t3 : SortedOn (fun x y => decide (f x y < 0)) x205 mid (mid + m - s) := ok205.1.sorted_out (.inr (Nat.le_refl _)) (by have h9 := ok191.2.s3 (by omega) (by omega) (by omega) s1; rw [hm1] at h9; exact h9)
                have t4 : SortedOn (fun x y => decide (f x y < 0)) x205 (mid + m - s) b := ok205.1.sorted_out (.inr (by omega)) (ok191.2.s4 (by omega) (by omega) s2)
                have hno3 : mid + m - s = mid ∨ mid + m - s = b := by (rw [hmid] at h213; rw [Bool.and_eq_false_iff, decide_eq_false_iff_not, decide_eq_false_iff_not] at h213; omega)
                obtain ⟨x219, e219, ok219⟩ : ∃ z : List TFeedItem, z = x205 ∧ (Shuf x205 z mid b ∧ SortedOn (fun x y => decide (f x y < 0)) z mid b) := ⟨x205, rfl, Shuf.refl _ _ _, by (rcases hno3 with e | e); (rw [e] at t4; exact t4); (rw [e] at t3; exact t3)⟩
                refine awp_own (congrArg (fun z : List TFeedItem => [Own.arr v 43 5 (z.map TFeedItem.cs)]) e219.symm) ?_
                refine awp_skip ?_
                first | exact retG [0] (upR l a (j - 1 - a)) (⟨shuf_upR (by omega) (Nat.le_refl _) (by omega), by have h9 := sorted_up hs (l := l) (a := a) (q := j) (b := b) (by omega) (by omega) hb (by rw [← ham1]; exact s2) hinv0.2.1 (by rw [← ham1]; exact hinv0.2.2); rw [show j - (a + 1) = j - 1 - a by omega] at h9; exact h9⟩) rfl (by rfl) (resN rfl (by decide) rv_nil) | exact retG [0] (downR l m (m - k)) (⟨shuf_downR (by omega) (by omega) (by omega) (by omega), by rw [hbm1]; exact sorted_down hs (by omega) (by omega) (by omega) s1 hinv0.2.1 hinv0.2.2⟩) rfl (by rfl) (resN rfl (by decide) rv_nil) | exact retG [0] (x219) (⟨((ok191.1.wide (by omega) (by omega)).trans (ok205.1.wide (Nat.le_refl _) (by omega))).trans (ok219.1.wide (by omega) (Nat.le_refl _)), sorted_glue (ok219.1.sorted_out (.inl (Nat.le_refl _)) ok205.2) ok219.2 (ok219.1.cross2 (ok205.1.cross1 (by have h9 := rot_cross hs ok191.2 (by omega) (by omega) (by omega) (by omega) s1 s2 hc1 hc2; rw [hm1] at h9; exact h9)))⟩) rfl (by rfl) (resN rfl (by decide) rv_nil)
      · intro h140
        have k140 := of_decide_eq_false h140; try simp only [List.length_map] at k140
        obtain ⟨s0, hs0⟩ : ∃ s0 : Nat, s0 = a := ⟨_, rfl⟩
        obtain ⟨r0, hr0⟩ : ∃ r0 : Nat, r0 = m := ⟨_, rfl⟩
        refine awp_seq ?_
        refine awp_region ?_
        refine sq_plain rfl rfl rfl (w_move rfl (ev_tmp rfl)) ?_
        refine sq_plain rfl rfl rfl (w_assign rfl (ev_tmp rfl)) ?_
        refine sq_nil ?_
        refine awp_region ?_
        refine sq_plain rfl rfl rfl (w_move rfl (ev_tmp rfl)) ?_
        refine sq_plain rfl rfl rfl (w_assign rfl (ev_tmp rfl)) ?_
        refine sq_nil ?_
        refine awp_seq ?_
        refine awp_region ?_
        refine sq_plain rfl rfl rfl (w_move rfl (ev_tmp rfl)) ?_
        refine sq_plain rfl rfl rfl (w_subi rfl (ev_tmp rfl) ev_ci (by first | omega | ((try simp only [List.length_map, List.length_take, List.length_cons, List.length_nil, chunks_len, szR] at *); omega) | (have hc2 := hc; simp only [Bool.and_eq_true, Bool.or_eq_true, Bool.or_eq_false_iff, Bool.and_eq_false_iff, Bool.not_eq_true', Bool.not_eq_false', decide_eq_true_eq, decide_eq_false_iff_not, beq_iff_eq, bne_iff_ne, List.length_map, List.length_take] at hc2; omega))) ?_
        refine sq_plain rfl rfl rfl (w_assign rfl (ev_tmp rfl)) ?_
        refine sq_nil ?_
        refine awp_seq ?_
        refine awp_block ?_
        refine awp_loop_i2 [(0, _), (1, _), (2, _), (3, _), (4, _), (18, _), (19, _), (22, _)] _ (fun (s : Nat) (r : Nat) => (s0 ≤ s ∧ s ≤ r ∧ r ≤ r0) ∧ (s = s0 ∨ ∃ x y, l[s - 1]? = some x ∧ l[mid + m - s]? = some y ∧ decide (f y x < 0) = false) ∧ (r = r0 ∨ ∃ x y, l[mid + m - 1 - r]? = some x ∧ l[r]? = some y ∧ decide (f x y < 0) = true)) (fun (s : Nat) (r : Nat) => [.arr v 43 5 (l.map TFeedItem.cs)]) (fun (s : Nat) (r : Nat) => [(20, AV.int s), (21, AV.int r)]) (fun (s : Nat) (r : Nat) => r - s) (s0) (r0) ?_ (le_eq (by rfl) ⟨congrArg (fun z => some (AV.int z)) (by omega), congrArg (fun z => some (AV.int z)) (by omega), rfl, rfl, rfl, rfl, rfl, rfl, rfl, rfl, trivial⟩) ?_
        · exact ⟨by omega, .inl rfl, .inl rfl⟩
        intro s r hinv
        refine awp_seq ?_
        refine awp_seq ?_
        refine awp_region ?_
        refine sq_plain rfl rfl rfl (w_move rfl (ev_tmp rfl)) ?_
        refine sq_plain rfl rfl rfl (w_move rfl (ev_tmp rfl)) ?_
        refine sq_plain rfl rfl rfl (w_lss rfl (ev_tmp rfl) (ev_tmp rfl)) ?_
        refine sq_nil ?_
        refine awp_cond (ev_tmp rfl) ?_ ?_
        · intro h151
          have k151 := of_decide_eq_true h151; try simp only [List.length_map] at k151
          have hmid2 := mid_eq s r (by omega)
          obtain ⟨x, hx⟩ := get_some (show mid + m - 1 - (s + r) / 2 < l.length by omega)
          obtain ⟨y, hy⟩ := get_some (show (s + r) / 2 < l.length by omega)
          refine awp_skip ?_
          refine awp_block ?_
          refine awp_seq ?_
          refine awp_region ?_
          refine sq_plain rfl rfl rfl (w_move rfl (ev_tmp rfl)) ?_
          refine sq_plain rfl rfl rfl (w_move rfl (ev_tmp rfl)) ?_
          refine sq_plain rfl rfl rfl (w_addi rfl (ev_tmp rfl) (ev_tmp rfl) (by first | omega | ((try simp only [List.length_map, List.length_take, List.length_cons, List.length_nil, chunks_len, szR] at *); omega) | (have hc2 := hc; simp only [Bool.and_eq_true, Bool.or_eq_true, Bool.or_eq_false_iff, Bool.and_eq_false_iff, Bool.not_eq_true', Bool.not_eq_false', decide_eq_true_eq, decide_eq_false_iff_not, beq_iff_eq, bne_iff_ne, List.length_map, List.length_take] at hc2; omega))) ?_
          refine sq_plain rfl rfl rfl (w_conv rfl (by kernel_rfl) Try.underlying80 (ev_tmp rfl)) ?_
          refine sq_plain rfl rfl rfl (w_shr rfl (ev_tmp rfl) ev_ci (by decide) (by decide)) ?_
          refine sq_plain rfl rfl rfl (w_conv rfl (by kernel_rfl) Try.underlying3 (ev_tmp rfl)) ?_
          refine sq_plain rfl rfl rfl (w_assign rfl (ev_tmp rfl)) ?_
          refine sq_nil ?_
          refine awp_seq ?_
          refine awp_region_any (by kernel_rfl) (by kernel_rfl) rfl ?_
          refine ch_plain rfl rfl (w_move rfl (ev_tmp rfl)) ?_
          refine ch_plain rfl rfl (w_move rfl (ev_tmp rfl)) ?_
          refine ch_plain rfl rfl (w_move rfl (ev_tmp rfl)) ?_
          refine ch_plain rfl rfl (w_move rfl (ev_tmp rfl)) ?_
          refine ch_plain rfl rfl (w_subi rfl (ev_tmp rfl) (ev_tmp rfl) (by first | omega | ((try simp only [List.length_map, List.length_take, List.length_cons, List.length_nil, chunks_len, szR] at *); omega) | (have hc2 := hc; simp only [Bool.and_eq_true, Bool.or_eq_true, Bool.or_eq_false_iff, Bool.and_eq_false_iff, Bool.not_eq_true', Bool.not_eq_false', decide_eq_true_eq, decide_eq_false_iff_not, beq_iff_eq, bne_iff_ne, List.length_map, List.length_take] at hc2; omega))) ?_
          refine ch_plain rfl rfl (w_aidx 0 rfl Try.underlying24 Try.sizeOf43 (ev_tmp rfl) rfl (ev_tmp rfl) (by first | omega | ((try simp only [List.length_map, List.length_take, List.length_cons, List.length_nil, chunks_len, szR] at *); omega) | (have hc2 := hc; simp only [Bool.and_eq_true, Bool.or_eq_true, Bool.or_eq_false_iff, Bool.and_eq_false_iff, Bool.not_eq_true', Bool.not_eq_false', decide_eq_true_eq, decide_eq_false_iff_not, beq_iff_eq, bne_iff_ne, List.length_map, List.length_take] at hc2; omega)) (by first | omega | ((try simp only [List.length_map, List.length_take, List.length_cons, List.length_nil, chunks_len, szR] at *); omega) | (have hc2 := hc; simp only [Bool.and_eq_true, Bool.or_eq_true, Bool.or_eq_false_iff, Bool.and_eq_false_iff, Bool.not_eq_true', Bool.not_eq_false', decide_eq_true_eq, decide_eq_false_iff_not, beq_iff_eq, bne_iff_ne, List.length_map, List.length_take] at hc2; omega))) ?_
          refine ch_plain rfl rfl (w_loadX 0 rfl (ev_tmp rfl) rfl Try.isAgg43 Try.sizeOf43 (by rw [hmid2, hmid, show ((mid : Int) + (m : Int) - 1 - (((s + r) / 2 : Nat) : Int)).toNat = mid + m - 1 - (s + r) / 2 by omega, List.getElem?_map, hx]; rfl) (by decide)) ?_
          refine ch_plain rfl rfl (w_move rfl (ev_tmp rfl)) ?_
          refine ch_plain rfl rfl (w_move rfl (ev_tmp rfl)) ?_
          refine ch_plain rfl rfl (w_aidx 0 rfl Try.underlying24 Try.sizeOf43 (ev_tmp rfl) rfl (ev_tmp rfl) (by first | omega | ((try simp only [List.length_map, List.length_take, List.length_cons, List.length_nil, chunks_len, szR] at *); omega) | (have hc2 := hc; simp only [Bool.and_eq_true, Bool.or_eq_true, Bool.or_eq_false_iff, Bool.and_eq_false_iff, Bool.not_eq_true', Bool.not_eq_false', decide_eq_true_eq, decide_eq_false_iff_not, beq_iff_eq, bne_iff_ne, List.length_map, List.length_take] at hc2; omega)) (by first | omega | ((try simp only [List.length_map, List.length_take, List.length_cons, List.length_nil, chunks_len, szR] at *); omega) | (have hc2 := hc; simp only [Bool.and_eq_true, Bool.or_eq_true, Bool.or_eq_false_iff, Bool.and_eq_false_iff, Bool.not_eq_true', Bool.not_eq_false', decide_eq_true_eq, decide_eq_false_iff_not, beq_iff_eq, bne_iff_ne, List.length_map, List.length_take] at hc2; omega))) ?_
          refine ch_plain rfl rfl (w_loadX 0 rfl (ev_tmp rfl) rfl Try.isAgg43 Try.sizeOf43 (by rw [hmid2, Int.toNat_natCast, List.getElem?_map, hy]; rfl) (by decide)) ?_
          refine ch_plain rfl rfl (w_callv2 rfl (ev_tmp rfl) x y trivial (ev_tmp rfl) (ev_tmp rfl)) ?_
          refine ch_plain rfl rfl (w_lss rfl (ev_tmp rfl) ev_ci) ?_
          refine ch_plain rfl rfl (w_not rfl (ev_tmp rfl)) ?_
          refine ch_nil ?_
          refine awp_cond (ev_tmp rfl) ?_ ?_
          · intro h171
            refine awp_region ?_
            refine sq_plain rfl rfl rfl (w_move rfl (ev_tmp rfl)) ?_
            refine sq_plain rfl rfl rfl (w_addi rfl (ev_tmp rfl) ev_ci (by first | omega | ((try simp only [List.length_map, List.length_take, List.length_cons, List.length_nil, chunks_len, szR] at *); omega) | (have hc2 := hc; simp only [Bool.and_eq_true, Bool.or_eq_true, Bool.or_eq_false_iff, Bool.and_eq_false_iff, Bool.not_eq_true', Bool.not_eq_false', decide_eq_true_eq, decide_eq_false_iff_not, beq_iff_eq, bne_iff_ne, List.length_map, List.length_take] at hc2; omega))) ?_
            refine sq_plain rfl rfl rfl (w_assign rfl (ev_tmp rfl)) ?_
            refine sq_nil ?_
            refine blockN ?_
            refine round_end2 s r ((s + r) / 2 + 1) (r) ?_ ?_ (le_eq (by rfl) ⟨(by first | rfl | exact congrArg (fun z => some (AV.int z)) (by rw [hmid2]; omega)), (by first | rfl | exact congrArg (fun z => some (AV.int z)) hmid2), rfl, rfl, rfl, rfl, rfl, rfl, rfl, rfl, trivial⟩)
            · exact ⟨by omega, .inr ⟨y, x, by rw [Nat.add_sub_cancel]; exact hy, by rw [show mid + m - ((s + r) / 2 + 1) = mid + m - 1 - (s + r) / 2 by omega]; exact hx, by simpa using h171⟩, hinv.2.2⟩
            · omega
          · intro h171
            refine awp_region ?_
            refine sq_plain rfl rfl rfl (w_move rfl (ev_tmp rfl)) ?_
            refine sq_plain rfl rfl rfl (w_assign rfl (ev_tmp rfl)) ?_
            refine sq_nil ?_
            refine blockN ?_
            refine round_end2 s r (s) ((s + r) / 2) ?_ ?_ (le_eq (by rfl) ⟨(by first | rfl | exact congrArg (fun z => some (AV.int z)) (by rw [hmid2]; omega)), (by first | rfl | exact congrArg (fun z => some (AV.int z)) hmid2), rfl, rfl, rfl, rfl, rfl, rfl, rfl, rfl, trivial⟩)
            · exact ⟨by omega, hinv.2.1, .inr ⟨x, y, hx, hy, by simpa using h171⟩⟩
            · omega
        · intro h151
          have k151 := of_decide_eq_false h151; try simp only [List.length_map] at k151
          have hsr : s = r := by omega
          subst hsr
          have hinv0 := hinv
          have hc1 : s = a ∨ mid + m - s = b ∨ ∃ x y, l[s - 1]? = some x ∧ l[mid + m - s]? = some y ∧ decide (f y x < 0) = false := (by rcases hinv0.2.1 with e | e; (by_cases e9 : s = a); exact .inl e9; exact .inr (.inl (by omega)); exact .inr (.inr e))
          have hc2 : s = m ∨ mid + m - s = m ∨ ∃ x y, l[mid + m - s - 1]? = some x ∧ l[s]? = some y ∧ decide (f x y < 0) = true := (by rcases hinv0.2.2 with e | e; (by_cases e9 : s = m); exact .inl e9; exact .inr (.inl (by omega)); exact .inr (.inr (by rw [show mid + m - s - 1 = mid + m - 1 - s by omega]; exact e)))
          refine awp_exit ?_
          refine awp_seq ?_
          refine awp_region ?_
          refine sq_plain rfl rfl rfl (w_move rfl (ev_tmp rfl)) ?_
          refine sq_plain rfl rfl rfl (w_move rfl (ev_tmp rfl)) ?_
          refine sq_plain rfl rfl rfl (w_subi rfl (ev_tmp rfl) (ev_tmp rfl) (by first | omega | ((try simp only [List.length_map, List.length_take, List.length_cons, List.length_nil, chunks_len, szR] at *); omega) | (have hc2 := hc; simp only [Bool.and_eq_true, Bool.or_eq_true, Bool.or_eq_false_iff, Bool.and_eq_false_iff, Bool.not_eq_true', Bool.not_eq_false', decide_eq_true_eq, decide_eq_false_iff_not, beq_iff_eq, bne_iff_ne, List.length_map, List.length_take] at hc2; omega))) ?_
          refine sq_plain rfl rfl rfl (w_assign rfl (ev_tmp rfl)) ?_
          refine sq_nil ?_
          refine awp_seq ?_
          refine awp_seq ?_
          refine awp_region ?_
          refine sq_plain rfl rfl rfl (w_move rfl (ev_tmp rfl)) ?_
          refine sq_plain rfl rfl rfl (w_move rfl (ev_tmp rfl)) ?_
          refine sq_plain rfl rfl rfl (w_lss rfl (ev_tmp rfl) (ev_tmp rfl)) ?_
          refine sq_plain rfl rfl rfl (w_move rfl (ev_tmp rfl)) ?_
          refine sq_grd rfl rfl (guard_t rfl rfl rfl) (fun hc => w_move rfl (ev_tmp rfl)) ?_
          refine sq_grd rfl rfl (guard_t rfl rfl rfl) (fun hc => w_move rfl (ev_tmp rfl)) ?_
          refine sq_grd rfl rfl (guard_t rfl rfl rfl) (fun hc => w_lss rfl (ev_whn rfl hc) (ev_whn rfl hc)) ?_
          refine sq_plain rfl rfl rfl (w_and rfl (ev_tmp rfl) (evif_w rfl)) ?_
          refine sq_nil ?_
          refine awp_cond (ev_tmp rfl) ?_ ?_
          · intro h185
            simp only [Bool.and_eq_true, decide_eq_true_eq] at h185
            refine awp_region ?_
            refine sq_plain rfl rfl rfl (w_move rfl (ev_tmp rfl)) ?_
            refine sq_plain rfl rfl rfl (w_move rfl (ev_tmp rfl)) ?_
            refine sq_plain rfl rfl rfl (w_move rfl (ev_tmp rfl)) ?_
            refine sq_plain rfl rfl rfl (w_move rfl (ev_tmp rfl)) ?_
            refine sq_plain rfl rfl rfl (w_move rfl (ev_tmp rfl)) ?_
            refine sq_callG [0] rfl rfl rfl rfl Try.call61 rfl (rotate_own v l s m (mid + m - s) _ (by omega) (by omega) (by omega) (by omega)) (evl_cons (ev_tmp rfl) (evl_cons (ev_tmp rfl) (evl_cons (ev_tmp rfl) (evl_cons (ev_tmp (congrArg (fun z => some (AV.int z)) (by rw [hmid]; omega))) (evl_cons (ev_tmp rfl) evl_nil))))) rfl ?_
            intro x191 ok191
            refine sq_nil ?_
            refine awp_seq ?_
            refine awp_seq ?_
            refine awp_region ?_
            refine sq_plain rfl rfl rfl (w_move rfl (ev_tmp rfl)) ?_
            refine sq_plain rfl rfl rfl (w_move rfl (ev_tmp rfl)) ?_
            refine sq_plain rfl rfl rfl (w_lss rfl (ev_tmp rfl) (ev_tmp rfl)) ?_
            refine sq_plain rfl rfl rfl (w_move rfl (ev_tmp rfl)) ?_
            refine sq_grd rfl rfl (guard_t rfl rfl rfl) (fun hc => w_move rfl (ev_tmp rfl)) ?_
            refine sq_grd rfl rfl (guard_t rfl rfl rfl) (fun hc => w_move rfl (ev_tmp rfl)) ?_
            refine sq_grd rfl rfl (guard_t rfl rfl rfl) (fun hc => w_lss rfl (ev_whn rfl hc) (ev_whn rfl hc)) ?_
            refine sq_plain rfl rfl rfl (w_and rfl (ev_tmp rfl) (evif_w rfl)) ?_
            refine sq_nil ?_
            refine awp_cond (ev_tmp rfl) ?_ ?_
            · intro h199
              simp only [Bool.and_eq_true, decide_eq_true_eq] at h199
              have hl1 := ok191.1.len
              have hm1 : s + (mid + m - s - m) = mid := by omega
              have t1 : SortedOn (fun x y => decide (f x y < 0)) x191 a s := ok191.2.s1 (by omega) (by omega) s1
              have t2 : SortedOn (fun x y => decide (f x y < 0)) x191 s mid := (by have h9 := ok191.2.s2 (by omega) (by omega) (by omega) s2; rw [hm1] at h9; exact h9)
              refine awp_region ?_
              refine sq_plain rfl rfl rfl (w_move rfl (ev_tmp rfl)) ?_
              refine sq_plain rfl rfl rfl (w_move rfl (ev_tmp rfl)) ?_
              refine sq_plain rfl rfl rfl (w_move rfl (ev_tmp rfl)) ?_
              refine sq_plain rfl rfl rfl (w_move rfl (ev_tmp rfl)) ?_
              refine sq_plain rfl rfl rfl (w_move rfl (ev_tmp rfl)) ?_
              refine sq_callG [0] rfl rfl rfl rfl Try.call50 rfl (ih x191 a s mid (by omega) (by omega) (by omega) (by omega) (by omega) t1 t2) (evl_cons (ev_tmp rfl) (evl_cons (ev_tmp rfl) (evl_cons (ev_tmp rfl) (evl_cons (ev_tmp (congrArg (fun z => some (AV.int z)) hmid)) (evl_cons (ev_tmp rfl) evl_nil))))) rfl ?_
              intro x205 ok205
              refine sq_nil ?_
              refine awp_seq ?_
              refine awp_region ?_
              refine sq_plain rfl rfl rfl (w_move rfl (ev_tmp rfl)) ?_
              refine sq_plain rfl rfl rfl (w_move rfl (ev_tmp rfl)) ?_
              refine sq_plain rfl rfl rfl (w_lss rfl (ev_tmp rfl) (ev_tmp rfl)) ?_
              refine sq_plain rfl rfl rfl (w_move rfl (ev_tmp rfl)) ?_
              refine sq_grd rfl rfl (guard_t rfl rfl rfl) (fun hc => w_move rfl (ev_tmp rfl)) ?_
              refine sq_grd rfl rfl (guard_t rfl rfl rfl) (fun hc => w_move rfl (ev_tmp rfl)) ?_
              refine sq_grd rfl rfl (guard_t rfl rfl rfl) (fun hc => w_lss rfl (ev_whn rfl hc) (ev_whn rfl hc)) ?_
              refine sq_plain rfl rfl rfl (w_and rfl (ev_tmp rfl) (evif_w rfl)) ?_
              refine sq_nil ?_
              refine awp_cond (ev_tmp rfl) ?_ ?_
              · intro h213
                simp only [Bool.and_eq_true, decide_eq_true_eq] at h213
                have hl2 := ok205.1.len
                have t3 : SortedOn (fun x y => decide (f x y < 0)) x205 mid (mid + m - s) := ok205.1.sorted_out (.inr (Nat.le_refl _)) (by have h9 := ok191.2.s3 (by omega) (by omega) (by omega) s1; rw [hm1] at h9; exact h9)
                have t4 : SortedOn (fun x y => decide (f x y < 0)) x205 (mid + m - s) b := ok205.1.sorted_out (.inr (by omega)) (ok191.2.s4 (by omega) (by omega) s2)
                refine awp_region ?_
                refine sq_plain rfl rfl rfl (w_move rfl (ev_tmp rfl)) ?_
                refine sq_plain rfl rfl rfl (w_move rfl (ev_tmp rfl)) ?_
                refine sq_plain rfl rfl rfl (w_move rfl (ev_tmp rfl)) ?_
                refine sq_plain rfl rfl rfl (w_move rfl (ev_tmp rfl)) ?_
                refine sq_plain rfl rfl rfl (w_move rfl (ev_tmp rfl)) ?_
                refine sq_callG [0] rfl rfl rfl rfl Try.call50 rfl (ih x205 mid (mid + m - s) b (by omega) (by omega) (by omega) (by omega) (by omega) t3 t4) (evl_cons (ev_tmp rfl) (evl_cons (ev_tmp (congrArg (fun z => some (AV.int z)) hmid)) (evl_cons (ev_tmp (congrArg (fun z => some (AV.int z)) (by rw [hmid]; omega))) (evl_cons (ev_tmp rfl) (evl_cons (ev_tmp rfl) evl_nil))))) rfl ?_
                intro x219 ok219
                refine sq_nil ?_
                first | exact retG [0] (upR l a (j - 1 - a)) (⟨shuf_upR (by omega) (Nat.le_refl _) (by omega), by have h9 := sorted_up hs (l := l) (a := a) (q := j) (b := b) (by omega) (by omega) hb (by rw [← ham1]; exact s2) hinv0.2.1 (by rw [← ham1]; exact hinv0.2.2); rw [show j - (a + 1) = j - 1 - a by omega] at h9; exact h9⟩) rfl (by rfl) (resN rfl (by decide) rv_nil) | exact retG [0] (downR l m (m - k)) (⟨shuf_downR (by omega) (by omega) (by omega) (by omega), by rw [hbm1]; exact sorted_down hs (by omega) (by omega) (by omega) s1 hinv0.2.1 hinv0.2.2⟩) rfl (by rfl) (resN rfl (by decide) rv_nil) | exact retG [0] (x219) (⟨((ok191.1.wide (by omega) (by omega)).trans (ok205.1.wide (Nat.le_refl _) (by omega))).trans (ok219.1.wide (by omega) (Nat.le_refl _)), sorted_glue (ok219.1.sorted_out (.inl (Nat.le_refl _)) ok205.2) ok219.2 (ok219.1.cross2 (ok205.1.cross1 (by have h9 := rot_cross hs ok191.2 (by omega) (by omega) (by omega) (by omega) s1 s2 hc1 hc2; rw [hm1] at h9; exact h9)))⟩) rfl (by rfl) (resN rfl (by decide) rv_nil)
              · intro h213
                have hl2 := ok205.1.len
                have t3 : SortedOn (fun x y => decide (f x y < 0)) x205 mid (mid + m - s) := ok205.1.sorted_out (.inr (Nat.le_refl _)) (by have h9 := ok191.2.s3 (by omega) (by omega) (by omega) s1; rw [hm1] at h9; exact h9)
                have t4 : SortedOn (fun x y => decide (f x y < 0)) x205 (mid + m - s) b := ok205.1.sorted_out (.inr (by omega)) (ok191.2.s4 (by omega) (by omega) s2)
                have hno3 : mid + m - s = mid ∨ mid + m - s = b := by (rw [hmid] at h213; rw [Bool.and_eq_false_iff, decide_eq_false_iff_not, decide_eq_false_iff_not] at h213; omega)
                obtain ⟨x219, e219, ok219⟩ : ∃ z : List TFeedItem, z = x205 ∧ (Shuf x205 z mid b ∧ SortedOn (fun x y => decide (f x y < 0)) z mid b) := ⟨x205, rfl, Shuf.refl _ _ _, by (rcases hno3 with e | e); (rw [e] at t4; exact t4); (rw [e] at t3; exact t3)⟩
                refine awp_own (congrArg (fun z : List TFeedItem => [Own.arr v 43 5 (z.map TFeedItem.cs)]) e219.symm) ?_
                refine awp_skip ?_
                first | exact retG [0] (upR l a (j - 1 - a)) (⟨shuf_upR (by omega) (Nat.le_refl _) (by omega), by have h9 := sorted_up hs (l := l) (a := a) (q := j) (b := b) (by omega) (by omega) hb (by rw [← ham1]; exact s2) hinv0.2.1 (by rw [← ham1]; exact hinv0.2.2); rw [show j - (a + 1) = j - 1 - a by omega] at h9; exact h9⟩) rfl (by rfl) (resN rfl (by decide) rv_nil) | exact retG [0] (downR l m (m - k)) (⟨shuf_downR (by omega) (by omega) (by omega) (by omega), by rw [hbm1]; exact sorted_down hs (by omega) (by omega) (by omega) s1 hinv0.2.1 hinv0.2.2⟩) rfl (by rfl) (resN rfl (by decide) rv_nil) | exact retG [0] (x219) (⟨((ok191.1.wide (by omega) (by omega)).trans (ok205.1.wide (Nat.le_refl _) (by omega))).trans (ok219.1.wide (by omega) (Nat.le_refl _)), sorted_glue (ok219.1.sorted_out (.inl (Nat.le_refl _)) ok205.2) ok219.2 (ok219.1.cross2 (ok205.1.cross1 (by have h9 := rot_cross hs ok191.2 (by omega) (by omega) (by omega) (by omega) s1 s2 hc1 hc2; rw [hm1] at h9; exact h9)))⟩) rfl (by rfl) (resN rfl (by decide) rv_nil)
            · intro h199
              have hl1 := ok191.1.len
              have hm1 : s + (mid + m - s - m) = mid := by omega
              have t1 : SortedOn (fun x y => decide (f x y < 0)) x191 a s := ok191.2.s1 (by omega) (by omega) s1
              have t2 : SortedOn (fun x y => decide (f x y < 0)) x191 s mid := (by have h9 := ok191.2.s2 (by omega) (by omega) (by omega) s2; rw [hm1] at h9; exact h9)
              have hno2 : s = a ∨ s = mid := by (rw [hmid] at h199; rw [Bool.and_eq_false_iff, decide_eq_false_iff_not, decide_eq_false_iff_not] at h199; omega)
              obtain ⟨x205, e205, ok205⟩ : ∃ z : List TFeedItem, z = x191 ∧ (Shuf x191 z a mid ∧ SortedOn (fun x y => decide (f x y < 0)) z a mid) := ⟨x191, rfl, Shuf.refl _ _ _, by (rcases hno2 with e | e); (rw [e] at t2; exact t2); (rw [e] at t1; exact t1)⟩
              refine awp_own (congrArg (fun z : List TFeedItem => [Own.arr v 43 5 (z.map TFeedItem.cs)]) e205.symm) ?_
              refine awp_skip ?_
              refine awp_seq ?_
              refine awp_region ?_
              refine sq_plain rfl rfl rfl (w_move rfl (ev_tmp rfl)) ?_
              refine sq_plain rfl rfl rfl (w_move rfl (ev_tmp rfl)) ?_
              refine sq_plain rfl rfl rfl (w_lss rfl (ev_tmp rfl) (ev_tmp rfl)) ?_
              refine sq_plain rfl rfl rfl (w_move rfl (ev_tmp rfl)) ?_
              refine sq_grd rfl rfl (guard_t rfl rfl rfl) (fun hc => w_move rfl (ev_tmp rfl)) ?_
              refine sq_grd rfl rfl (guard_t rfl rfl rfl) (fun hc => w_move rfl (ev_tmp rfl)) ?_
              refine sq_grd rfl rfl (guard_t rfl rfl rfl) (fun hc => w_lss rfl (ev_whn rfl hc) (ev_whn rfl hc)) ?_
              refine sq_plain rfl rfl rfl (w_and rfl (ev_tmp rfl) (evif_w rfl)) ?_
              refine sq_nil ?_
              refine awp_cond (ev_tmp rfl) ?_ ?_
              · intro h213
                simp only [Bool.and_eq_true, decide_eq_true_eq] at h213
                have hl2 := ok205.1.len
                have t3 : SortedOn (fun x y => decide (f x y < 0)) x205 mid (mid + m - s) := ok205.1.sorted_out (.inr (Nat.le_refl _)) (by have h9 := ok191.2.s3 (by omega) (by omega) (by omega) s1; rw [hm1] at h9; exact h9)
                have t4 : SortedOn (fun x y => decide (f x y < 0)) x205 (mid + m - s) b := ok205.1.sorted_out (.inr (by omega)) (ok191.2.s4 (by omega) (by omega) s2)
                refine awp_region ?_
                refine sq_plain rfl rfl rfl (w_move rfl (ev_tmp rfl)) ?_
                refine sq_plain rfl rfl rfl (w_move rfl (ev_tmp rfl)) ?_
                refine sq_plain rfl rfl rfl (w_move rfl (ev_tmp rfl)) ?_
                refine sq_plain rfl rfl rfl (w_move rfl (ev_tmp rfl)) ?_
                refine sq_plain rfl rfl rfl (w_move rfl (ev_tmp rfl)) ?_
                refine sq_callG [0] rfl rfl rfl rfl Try.call50 rfl (ih x205 mid (mid + m - s) b (by omega) (by omega) (by omega) (by omega) (by omega) t3 t4) (evl_cons (ev_tmp rfl) (evl_cons (ev_tmp (congrArg (fun z => some (AV.int z)) hmid)) (evl_cons (ev_tmp (congrArg (fun z => some (AV.int z)) (by rw [hmid]; omega))) (evl_cons (ev_tmp rfl) (evl_cons (ev_tmp rfl) evl_nil))))) rfl ?_
                intro x219 ok219
                refine sq_nil ?_
                first | exact retG [0] (upR l a (j - 1 - a)) (⟨shuf_upR (by omega) (Nat.le_refl _) (by omega), by have h9 := sorted_up hs (l := l) (a := a) (q := j) (b := b) (by omega) (by omega) hb (by rw [← ham1]; exact s2) hinv0.2.1 (by rw [← ham1]; exact hinv0.2.2); rw [show j - (a + 1) = j - 1 - a by omega] at h9; exact h9⟩) rfl (by rfl) (resN rfl (by decide) rv_nil) | exact retG [0] (downR l m (m - k)) (⟨shuf_downR (by omega) (by omega) (by omega) (by omega), by rw [hbm1]; exact sorted_down hs (by omega) (by omega) (by omega) s1 hinv0.2.1 hinv0.2.2⟩) rfl (by rfl) (resN rfl (by decide) rv_nil) | exact retG [0] (x219) (⟨((ok191.1.wide (by omega) (by omega)).trans (ok205.1.wide (Nat.le_refl _) (by omega))).trans (ok219.1.wide (by omega) (Nat.le_refl _)), sorted_glue (ok219.1.sorted_out (.inl (Nat.le_refl _)) ok205.2) ok219.2 (ok219.1.cross2 (ok205.1.cross1 (by have h9 := rot_cross hs ok191.2 (by omega) (by omega) (by omega) (by omega) s1 s2 hc1 hc2; rw [hm1] at h9; exact h9)))⟩) rfl (by rfl) (resN rfl (by decide) rv_nil)
              · intro h213
                have hl2 := ok205.1.len
                have t3 : SortedOn (fun x y => decide (f x y < 0)) x205 mid (mid + m - s) := ok205.1.sorted_out (.inr (Nat.le_refl _)) (by have h9 := ok191.2.s3 (by omega) (by omega) (by omega) s1; rw [hm1] at h9; exact h9)
                have t4 : SortedOn (fun x y => decide (f x y < 0)) x205 (mid + m - s) b := ok205.1.sorted_out (.inr (by omega)) (ok191.2.s4 (by omega) (by omega) s2)
                have hno3 : mid + m - s = mid ∨ mid + m - s = b := by (rw [hmid] at h213; rw [Bool.and_eq_false_iff, decide_eq_false_iff_not, decide_eq_false_iff_not] at h213; omega)
                obtain ⟨x219, e219, ok219⟩ : ∃ z : List TFeedItem, z = x205 ∧ (Shuf x205 z mid b ∧ SortedOn (fun x y => decide (f x y < 0)) z mid b) := ⟨x205, rfl, Shuf.refl _ _ _, by (rcases hno3 with e | e); (rw [e] at t4; exact t4); (rw [e] at t3; exact t3)⟩
                refine awp_own (congrArg (fun z : List TFeedItem => [Own.arr v 43 5 (z.map TFeedItem.cs)]) e219.symm) ?_
                refine awp_skip ?_
                first | exact retG [0] (upR l a (j - 1 - a)) (⟨shuf_upR (by omega) (Nat.le_refl _) (by omega), by have h9 := sorted_up hs (l := l) (a := a) (q := j) (b := b) (by omega) (by omega) hb (by rw [← ham1]; exact s2) hinv0.2.1 (by rw [← ham1]; exact hinv0.2.2); rw [show j - (a + 1) = j - 1 - a by omega] at h9; exact h9⟩) rfl (by rfl) (resN rfl (by decide) rv_nil) | exact retG [0] (downR l m (m - k)) (⟨shuf_downR (by omega) (by omega) (by omega) (by omega), by rw [hbm1]; exact sorted_down hs (by omega) (by omega) (by omega) s1 hinv0.2.1 hinv0.2.2⟩) rfl (by rfl) (resN rfl (by decide) rv_nil) | exact retG [0] (x219) (⟨((ok191.1.wide (by omega) (by omega)).trans (ok205.1.wide (Nat.le_refl _) (by omega))).trans (ok219.1.wide (by omega) (Nat.le_refl _)), sorted_glue (ok219.1.sorted_out (.inl (Nat.le_refl _)) ok205.2) ok219.2 (ok219.1.cross2 (ok205.1.cross1 (by have h9 := rot_cross hs ok191.2 (by omega) (by omega) (by omega) (by omega) s1 s2 hc1 hc2; rw [hm1] at h9; exact h9)))⟩) rfl (by rfl) (resN rfl (by decide) rv_nil)
          · intro h185
            have hno : s = m ∨ mid + m - s = m := by (rw [hmid] at h185; rw [Bool.and_eq_false_iff, decide_eq_false_iff_not, decide_eq_false_iff_not] at h185; omega)
            obtain ⟨x191, e191, ok191⟩ : ∃ z : List TFeedItem, z = l ∧ (Shuf l z s (mid + m - s) ∧ Rot l z s m (mid + m - s)) := ⟨l, rfl, Shuf.refl _ _ _, rot_none (by omega) (by omega) hno⟩
            refine awp_own (congrArg (fun z : List TFeedItem => [Own.arr v 43 5 (z.map TFeedItem.cs)]) e191.symm) ?_
            refine awp_skip ?_
            refine awp_seq ?_
            refine awp_seq ?_
            refine awp_region ?_
            refine sq_plain rfl rfl rfl (w_move rfl (ev_tmp rfl)) ?_
            refine sq_plain rfl rfl rfl (w_move rfl (ev_tmp rfl)) ?_
            refine sq_plain rfl rfl rfl (w_lss rfl (ev_tmp rfl) (ev_tmp rfl)) ?_
            refine sq_plain rfl rfl rfl (w_move rfl (ev_tmp rfl)) ?_
            refine sq_grd rfl rfl (guard_t rfl rfl rfl) (fun hc => w_move rfl (ev_tmp rfl)) ?_
            refine sq_grd rfl rfl (guard_t rfl rfl rfl) (fun hc => w_move rfl (ev_tmp rfl)) ?_
            refine sq_grd rfl rfl (guard_t rfl rfl rfl) (fun hc => w_lss rfl (ev_whn rfl hc) (ev_whn rfl hc)) ?_
            refine sq_plain rfl rfl rfl (w_and rfl (ev_tmp rfl) (evif_w rfl)) ?_
            refine sq_nil ?_
            refine awp_cond (ev_tmp rfl) ?_ ?_
            · intro h199
              simp only [Bool.and_eq_true, decide_eq_true_eq] at h199
              have hl1 := ok191.1.len
              have hm1 : s + (mid + m - s - m) = mid := by omega
              have t1 : SortedOn (fun x y => decide (f x y < 0)) x191 a s := ok191.2.s1 (by omega) (by omega) s1
              have t2 : SortedOn (fun x y => decide (f x y < 0)) x191 s mid := (by have h9 := ok191.2.s2 (by omega) (by omega) (by omega) s2; rw [hm1] at h9; exact h9)
              refine awp_region ?_
              refine sq_plain rfl rfl rfl (w_move rfl (ev_tmp rfl)) ?_
              refine sq_plain rfl rfl rfl (w_move rfl (ev_tmp rfl)) ?_
              refine sq_plain rfl rfl rfl (w_move rfl (ev_tmp rfl)) ?_
              refine sq_plain rfl rfl rfl (w_move rfl (ev_tmp rfl)) ?_
              refine sq_plain rfl rfl rfl (w_move rfl (ev_tmp rfl)) ?_
              refine sq_callG [0] rfl rfl rfl rfl Try.call50 rfl (ih x191 a s mid (by omega) (by omega) (by omega) (by omega) (by omega) t1 t2) (evl_cons (ev_tmp rfl) (evl_cons (ev_tmp rfl) (evl_cons (ev_tmp rfl) (evl_cons (ev_tmp (congrArg (fun z => some (AV.int z)) hmid)) (evl_cons (ev_tmp rfl) evl_nil))))) rfl ?_
              intro x205 ok205
              refine sq_nil ?_
              refine awp_seq ?_
              refine awp_region ?_
              refine sq_plain rfl rfl rfl (w_move rfl (ev_tmp rfl)) ?_
              refine sq_plain rfl rfl rfl (w_move rfl (ev_tmp rfl)) ?_
              refine sq_plain rfl rfl rfl (w_lss rfl (ev_tmp rfl) (ev_tmp rfl)) ?_
              refine sq_plain rfl rfl rfl (w_move rfl (ev_tmp rfl)) ?_
              refine sq_grd rfl rfl (guard_t rfl rfl rfl) (fun hc => w_move rfl (ev_tmp rfl)) ?_
              refine sq_grd rfl rfl (guard_t rfl rfl rfl) (fun hc => w_move rfl (ev_tmp rfl)) ?_
              refine sq_grd rfl rfl (guard_t rfl rfl rfl) (fun hc => w_lss rfl (ev_whn rfl hc) (ev_whn rfl hc)) ?_
              refine sq_plain rfl rfl rfl (w_and rfl (ev_tmp rfl) (evif_w rfl)) ?_
              refine sq_nil ?_
              refine awp_cond (ev_tmp rfl) ?_ ?_
              · intro h213
                simp only [Bool.and_eq_true, decide_eq_true_eq] at h213
                have hl2 := ok205.1.len
                have t3 : SortedOn (fun x y => decide (f x y < 0)) x205 mid (mid + m - s) := ok205.1.sorted_out (.inr (Nat.le_refl _)) (by have h9 := ok191.2.s3 (by omega) (by omega) (by omega) s1; rw [hm1] at h9; exact h9)
                have t4 : SortedOn (fun x y => decide (f x y < 0)) x205 (mid + m - s) b := ok205.1.sorted_out (.inr (by omega)) (ok191.2.s4 (by omega) (by omega) s2)
                refine awp_region ?_
                refine sq_plain rfl rfl rfl (w_move rfl (ev_tmp rfl)) ?_
                refine sq_plain rfl rfl rfl (w_move rfl (ev_tmp rfl)) ?_
                refine sq_plain rfl rfl rfl (w_move rfl (ev_tmp rfl)) ?_
                refine sq_plain rfl rfl rfl (w_move rfl (ev_tmp rfl)) ?_
                refine sq_plain rfl rfl rfl (w_move rfl (ev_tmp rfl)) ?_
                refine sq_callG [0] rfl rfl rfl rfl Try.call50 rfl (ih x205 mid (mid + m - s) b (by omega) (by omega) (by omega) (by omega) (by omega) t3 t4) (evl_cons (ev_tmp rfl) (evl_cons (ev_tmp (congrArg (fun z => some (AV.int z)) hmid)) (evl_cons (ev_tmp (congrArg (fun z => some (AV.int z)) (by rw [hmid]; omega))) (evl_cons (ev_tmp rfl) (evl_cons (ev_tmp rfl) evl_nil))))) rfl ?_
                intro x219 ok219
                refine sq_nil ?_
                first | exact retG [0] (upR l a (j - 1 - a)) (⟨shuf_upR (by omega) (Nat.le_refl _) (by omega), by have h9 := sorted_up hs (l := l) (a := a) (q := j) (b := b) (by omega) (by omega) hb (by rw [← ham1]; exact s2) hinv0.2.1 (by rw [← ham1]; exact hinv0.2.2); rw [show j - (a + 1) = j - 1 - a by omega] at h9; exact h9⟩) rfl (by rfl) (resN rfl (by decide) rv_nil) | exact retG [0] (downR l m (m - k)) (⟨shuf_downR (by omega) (by omega) (by omega) (by omega), by rw [hbm1]; exact sorted_down hs (by omega) (by omega) (by omega) s1 hinv0.2.1 hinv0.2.2⟩) rfl (by rfl) (resN rfl (by decide) rv_nil) | exact retG [0] (x219) (⟨((ok191.1.wide (by omega) (by omega)).trans (ok205.1.wide (Nat.le_refl _) (by omega))).trans (ok219.1.wide (by omega) (Nat.le_refl _)), sorted_glue (ok219.1.sorted_out (.inl (Nat.le_refl _)) ok205.2) ok219.2 (ok219.1.cross2 (ok205.1.cross1 (by have h9 := rot_cross hs ok191.2 (by omega) (by omega) (by omega) (by omega) s1 s2 hc1 hc2; rw [hm1] at h9; exact h9)))⟩) rfl (by rfl) (resN rfl (by decide) rv_nil)
              · intro h213
                have hl2 := ok205.1.len
                have t3 : SortedOn (fun x y => decide (f x y < 0)) x205 mid (mid + m - s) := ok205.1.sorted_out (.inr (Nat.le_refl _)) (by have h9 := ok191.2.s3 (by omega) (by omega) (by omega) s1; rw [hm1] at h9; exact h9)
                have t4 : SortedOn (fun x y => decide (f x y < 0)) x205 (mid + m - s) b := ok205.1.sorted_out (.inr (by omega)) (ok191.2.s4 (by omega) (by omega) s2)
                have hno3 : mid + m - s = mid ∨ mid + m - s = b := by (rw [hmid] at h213; rw [Bool.and_eq_false_iff, decide_eq_false_iff_not, decide_eq_false_iff_not] at h213; omega)
                obtain ⟨x219, e219, ok219⟩ : ∃ z : List TFeedItem, z = x205 ∧ (Shuf x205 z mid b ∧ SortedOn (fun x y => decide (f x y < 0)) z mid b) := ⟨x205, rfl, Shuf.refl _ _ _, by (rcases hno3 with e | e); (rw [e] at t4; exact t4); (rw [e] at t3; exact t3)⟩
                refine awp_own (congrArg (fun z : List TFeedItem => [Own.arr v 43 5 (z.map TFeedItem.cs)]) e219.symm) ?_
                refine awp_skip ?_
                first | exact retG [0] (upR l a (j - 1 - a)) (⟨shuf_upR (by omega) (Nat.le_refl _) (by omega), by have h9 := sorted_up hs (l := l) (a := a) (q := j) (b := b) (by omega) (by omega) hb (by rw [← ham1]; exact s2) hinv0.2.1 (by rw [← ham1]; exact hinv0.2.2); rw [show j - (a + 1) = j - 1 - a by omega] at h9; exact h9⟩) rfl (by rfl) (resN rfl (by decide) rv_nil) | exact retG [0] (downR l m (m - k)) (⟨shuf_downR (by omega) (by omega) (by omega) (by omega), by rw [hbm1]; exact sorted_down hs (by omega) (by omega) (by omega) s1 hinv0.2.1 hinv0.2.2⟩) rfl (by rfl) (resN rfl (by decide) rv_nil) | exact retG [0] (x219) (⟨((ok191.1.wide (by omega) (by omega)).trans (ok205.1.wide (Nat.le_refl _) (by omega))).trans (ok219.1.wide (by omega) (Nat.le_refl _)), sorted_glue (ok219.1.sorted_out (.inl (Nat.le_refl _)) ok205.2) ok219.2 (ok219.1.cross2 (ok205.1.cross1 (by have h9 := rot_cross hs ok191.2 (by omega) (by omega) (by omega) (by omega) s1 s2 hc1 hc2; rw [hm1] at h9; exact h9)))⟩) rfl (by rfl) (resN rfl (by decide) rv_nil)
            · intro h199
              have hl1 := ok191.1.len
              have hm1 : s + (mid + m - s - m) = mid := by omega
              have t1 : SortedOn (fun x y => decide (f x y < 0)) x191 a s := ok191.2.s1 (by omega) (by omega) s1
              have t2 : SortedOn (fun x y => decide (f x y < 0)) x191 s mid := (by have h9 := ok191.2.s2 (by omega) (by omega) (by omega) s2; rw [hm1] at h9; exact h9)
              have hno2 : s = a ∨ s = mid := by (rw [hmid] at h199; rw [Bool.and_eq_false_iff, decide_eq_false_iff_not, decide_eq_false_iff_not] at h199; omega)
              obtain ⟨x205, e205, ok205⟩ : ∃ z : List TFeedItem, z = x191 ∧ (Shuf x191 z a mid ∧ SortedOn (fun x y => decide (f x y < 0)) z a mid) := ⟨x191, rfl, Shuf.refl _ _ _, by (rcases hno2 with e | e); (rw [e] at t2; exact t2); (rw [e] at t1; exact t1)⟩
              refine awp_own (congrArg (fun z : List TFeedItem => [Own.arr v 43 5 (z.map TFeedItem.cs)]) e205.symm) ?_
              refine awp_skip ?_
              refine awp_seq ?_
              refine awp_region ?_
              refine sq_plain rfl rfl rfl (w_move rfl (ev_tmp rfl)) ?_
              refine sq_plain rfl rfl rfl (w_move rfl (ev_tmp rfl)) ?_
              refine sq_plain rfl rfl rfl (w_lss rfl (ev_tmp rfl) (ev_tmp rfl)) ?_
              refine sq_plain rfl rfl rfl (w_move rfl (ev_tmp rfl)) ?_
              refine sq_grd rfl rfl (guard_t rfl rfl rfl) (fun hc => w_move rfl (ev_tmp rfl)) ?_
              refine sq_grd rfl rfl (guard_t rfl rfl rfl) (fun hc => w_move rfl (ev_tmp rfl)) ?_
              refine sq_grd rfl rfl (guard_t rfl rfl rfl) (fun hc => w_lss rfl (ev_whn rfl hc) (ev_whn rfl hc)) ?_
              refine sq_plain rfl rfl rfl (w_and rfl (ev_tmp rfl) (evif_w rfl)) ?_
              refine sq_nil ?_
              refine awp_cond (ev_tmp rfl) ?_ ?_
              · intro h213
                simp only [Bool.and_eq_true, decide_eq_true_eq] at h213
                have hl2 := ok205.1.len
                have t3 : SortedOn (fun x y => decide (f x y < 0)) x205 mid (mid + m - s) := ok205.1.sorted_out (.inr (Nat.le_refl _)) (by have h9 := ok191.2.s3 (by omega) (by omega) (by omega) s1; rw [hm1] at h9; exact h9)
                have t4 : SortedOn (fun x y => decide (f x y < 0)) x205 (mid + m - s) b := ok205.1.sorted_out (.inr (by omega)) (ok191.2.s4 (by omega) (by omega) s2)
                refine awp_region ?_
                refine sq_plain rfl rfl rfl (w_move rfl (ev_tmp rfl)) ?_
                refine sq_plain rfl rfl rfl (w_move rfl (ev_tmp rfl)) ?_
                refine sq_plain rfl rfl rfl (w_move rfl (ev_tmp rfl)) ?_
                refine sq_plain rfl rfl rfl (w_move rfl (ev_tmp rfl)) ?_
                refine sq_plain rfl rfl rfl (w_move rfl (ev_tmp rfl)) ?_
                refine sq_callG [0] rfl rfl rfl rfl Try.call50 rfl (ih x205 mid (mid + m - s) b (by omega) (by omega) (by omega) (by omega) (by omega) t3 t4) (evl_cons (ev_tmp rfl) (evl_cons (ev_tmp (congrArg (fun z => some (AV.int z)) hmid)) (evl_cons (ev_tmp (congrArg (fun z => some (AV.int z)) (by rw [hmid]; omega))) (evl_cons (ev_tmp rfl) (evl_cons (ev_tmp rfl) evl_nil))))) rfl ?_
                intro x219 ok219
                refine sq_nil ?_
                first | exact retG [0] (upR l a (j - 1 - a)) (⟨shuf_upR (by omega) (Nat.le_refl _) (by omega), by have h9 := sorted_up hs (l := l) (a := a) (q := j) (b := b) (by omega) (by omega) hb (by rw [← ham1]; exact s2) hinv0.2.1 (by rw [← ham1]; exact hinv0.2.2); rw [show j - (a + 1) = j - 1 - a by omega] at h9; exact h9⟩) rfl (by rfl) (resN rfl (by decide) rv_nil) | exact retG [0] (downR l m (m - k)) (⟨shuf_downR (by omega) (by omega) (by omega) (by omega), by rw [hbm1]; exact sorted_down hs (by omega) (by omega) (by omega) s1 hinv0.2.1 hinv0.2.2⟩) rfl (by rfl) (resN rfl (by decide) rv_nil) | exact retG [0] (x219) (⟨((ok191.1.wide (by omega) (by omega)).trans (ok205.1.wide (Nat.le_refl _) (by omega))).trans (ok219.1.wide (by omega) (Nat.le_refl _)), sorted_glue (ok219.1.sorted_out (.inl (Nat.le_refl _)) ok205.2) ok219.2 (ok219.1.cross2 (ok205.1.cross1 (by have h9 := rot_cross hs ok191.2 (by omega) (by omega) (by omega) (by omega) s1 s2 hc1 hc2; rw [hm1] at h9; exact h9)))⟩) rfl (by rfl) (resN rfl (by decide) rv_nil)
              · intro h213
                have hl2 := ok205.1.len
                have t3 : SortedOn (fun x y => decide (f x y < 0)) x205 mid (mid + m - s) := ok205.1.sorted_out (.inr (Nat.le_refl _)) (by have h9 := ok191.2.s3 (by omega) (by omega) (by omega) s1; rw [hm1] at h9; exact h9)
                have t4 : SortedOn (fun x y => decide (f x y < 0)) x205 (mid + m - s) b := ok205.1.sorted_out (.inr (by omega)) (ok191.2.s4 (by omega) (by omega) s2)
                have hno3 : mid + m - s = mid ∨ mid + m - s = b := by (rw [hmid] at h213; rw [Bool.and_eq_false_iff, decide_eq_false_iff_not, decide_eq_false_iff_not] at h213; omega)
                obtain ⟨x219, e219, ok219⟩ : ∃ z : List TFeedItem, z = x205 ∧ (Shuf x205 z mid b ∧ SortedOn (fun x y => decide (f x y < 0)) z mid b) := ⟨x205, rfl, Shuf.refl _ _ _, by (rcases hno3 with e | e); (rw [e] at t4; exact t4); (rw [e] at t3; exact t3)⟩
                refine awp_own (congrArg (fun z : List TFeedItem => [Own.arr v 43 5 (z.map TFeedItem.cs)]) e219.symm) ?_
                refine awp_skip ?_
                first | exact retG [0] (upR l a (j - 1 - a)) (⟨shuf_upR (by omega) (Nat.le_refl _) (by omega), by have h9 := sorted_up hs (l := l) (a := a) (q := j) (b := b) (by omega) (by omega) hb (by rw [← ham1]; exact s2) hinv0.2.1 (by rw [← ham1]; exact hinv0.2.2); rw [show j - (a + 1) = j - 1 - a by omega] at h9; exact h9⟩) rfl (by rfl) (resN rfl (by decide) rv_nil) | exact retG [0] (downR l m (m - k)) (⟨shuf_downR (by omega) (by omega) (by omega) (by omega), by rw [hbm1]; exact sorted_down hs (by omega) (by omega) (by omega) s1 hinv0.2.1 hinv0.2.2⟩) rfl (by rfl) (resN rfl (by decide) rv_nil) | exact retG [0] (x219) (⟨((ok191.1.wide (by omega) (by omega)).trans (ok205.1.wide (Nat.le_refl _) (by omega))).trans (ok219.1.wide (by omega) (Nat.le_refl _)), sorted_glue (ok219.1.sorted_out (.inl (Nat.le_refl _)) ok205.2) ok219.2 (ok219.1.cross2 (ok205.1.cross1 (by have h9 := rot_cross hs ok191.2 (by omega) (by omega) (by omega) (by omega) s1 s2 hc1 hc2; rw [hm1] at h9; exact h9)))⟩) rfl (by rfl) (resN rfl (by decide) rv_nil)
end Go.Proofs.Ytcglmbinmfkafaa
