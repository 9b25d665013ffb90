/- Texts of the claim, part 4. -/
import Derived.Test.YtcglmbinmfkafaaZMerge3

set_option linter.unusedVariables false
set_option linter.unusedSimpArgs false
set_option maxRecDepth 100000
set_option maxHeartbeats 1000000
namespace Go.Proofs.Ytcglmbinmfkafaa
open Go Go.AV Go.M
attribute [local irreducible] OpW OpA OpS AWP FSpec ESpec GSpec OpE RetOk RetOkG RvDen Le Ev GuardIs SrcIs
theorem item_beq (x y : TFeedItem) : (x.Time == y.Time && (x.Group == y.Group && (x.Key == y.Key && (x.Val == y.Val && (x.Gone == y.Gone && true))))) = decide (x = y) := by
  cases x; cases y
  rw [Bool.eq_iff_iff]
  simp
theorem flat_le {α : Type} (l : List (List α)) (i : Nat) : (l.take i).flatten.length ≤ l.flatten.length := by
  have h := congrArg (fun z : List (List α) => z.flatten.length) (List.take_append_drop i l)
  simp only [List.flatten_append, List.length_append] at h
  omega
theorem flat_app {α : Type} {l : List (List α)} {i : Nat} {x : List α} (h : l[i]? = some x) : (l.take (i + 1)).flatten = (l.take i).flatten ++ x := by
  rw [List.take_add_one, h]; simp
theorem flat_next {α : Type} {l : List (List α)} {i : Nat} {x : List α} (h : l[i]? = some x) : (l.take (i + 1)).flatten.length = (l.take i).flatten.length + x.length := by
  rw [flat_app h, List.length_append]
theorem compact_own (v : Value) (l : List TFeedItem) (hl : l.length ≤ 4194304) : GSpec Try.prog 20 [AV.is v] [.arr v 43 5 (l.map TFeedItem.cs)]
      (fun _ : Value => True) (fun v => [.arr v 43 5 ((cmpL l).map TFeedItem.cs)]) (fun v => AV.is v) := by
  refine gspec_of_awp Try.func20 rfl Try.ntmps20 rfl ?_
  refine awp_seq ?_
  refine awp_region ?_
  refine sq_plain rfl rfl rfl (w_assign rfl ev_cnils) ?_
  refine sq_nil ?_
  refine awp_seq ?_
  refine awp_seq ?_
  refine awp_region ?_
  refine sq_plain rfl rfl rfl (w_move rfl (ev_tmp rfl)) ?_
  refine sq_plain rfl rfl rfl (w_alen 0 rfl Try.underlying24 (ev_tmp rfl) rfl) ?_
  refine sq_plain rfl rfl rfl (w_lss rfl (ev_tmp rfl) ev_ci) ?_
  refine sq_nil ?_
  refine awp_cond (ev_tmp rfl) ?_ ?_
  · intro h8
    have k8 := of_decide_eq_true h8; try simp only [List.length_map] at k8
    have hall : cmpL l = l := by (unfold cmpL; rw [cmpN_take (Nat.le_refl _) (fun i h1 h2 => by omega), List.take_length])
    refine awp_seq ?_
    refine awp_region ?_
    refine sq_plain rfl rfl rfl (w_move rfl (ev_tmp rfl)) ?_
    refine sq_plain rfl rfl rfl (w_assign rfl (ev_tmp rfl)) ?_
    refine sq_nil ?_
    refine awp_ret ?_
    exact retG [0] v (trivial) rfl (by first | exact congrArg (fun z => [Own.arr _ 43 5 (List.map TFeedItem.cs z)]) hall | (refine congrArg (fun z => [Own.arr _ 43 5 z]) ?_; exact (cmp_end hinv.2.2.2.2.1 hge (by omega)).symm)) (resR rfl (rv_tmp' rfl (by first | rfl | (refine congrArg AV.bool ?_; simp_all; done))))
  · intro h8
    have k8 := of_decide_eq_false h8; try simp only [List.length_map] at k8
    refine awp_skip ?_
    refine awp_seq ?_
    refine awp_seq ?_
    refine awp_region ?_
    refine sq_plain rfl rfl rfl (w_assign rfl ev_ci) ?_
    refine sq_nil ?_
    refine awp_block ?_
    refine awp_loop_i [(0, _)] _ (fun (k : Nat) => (1 ≤ k ∧ k ≤ l.length) ∧ ∀ i, 1 ≤ i → i < k → l[i]? ≠ l[i - 1]?) (fun (k : Nat) => []) (fun (k : Nat) => [(3, AV.int k)]) (fun (k : Nat) => l.length - k) (1) ?_ (le_env ⟨rfl, rfl, trivial⟩) ?_
    · exact ⟨⟨Nat.le_refl _, by omega⟩, fun i h1 h2 => by omega⟩
    intro k hinv
    refine awp_seq ?_
    refine awp_seq ?_
    refine awp_region ?_
    refine sq_plain rfl rfl rfl (w_move rfl (ev_tmp rfl)) ?_
    refine sq_plain rfl rfl rfl (w_move rfl (ev_tmp rfl)) ?_
    refine sq_plain rfl rfl rfl (w_alen 0 rfl Try.underlying24 (ev_tmp rfl) rfl) ?_
    refine sq_plain rfl rfl rfl (w_lss rfl (ev_tmp rfl) (ev_tmp rfl)) ?_
    refine sq_nil ?_
    refine awp_cond (ev_tmp rfl) ?_ ?_
    · intro h13
      have k13 := of_decide_eq_true h13; try simp only [List.length_map] at k13
      have hlt : k < l.length := by omega
      obtain ⟨x, hx⟩ := get_some hlt
      obtain ⟨y, hy⟩ := get_some (show k - 1 < l.length by omega)
      refine awp_skip ?_
      refine awp_seq ?_
      refine awp_block ?_
      refine awp_seq ?_
      refine awp_region_any (by kernel_rfl) (by kernel_rfl) rfl ?_
      refine ch_plain rfl rfl (w_move rfl (ev_tmp rfl)) ?_
      refine ch_plain rfl rfl (w_move rfl (ev_tmp rfl)) ?_
      refine ch_plain rfl rfl (w_aidx 0 rfl Try.underlying24 Try.sizeOf43 (ev_tmp rfl) rfl (ev_tmp rfl) (by first | omega | ((try simp only [List.length_map, List.length_take, List.length_cons, List.length_nil, chunks_len, szR] at *); omega) | (have hc2 := hc; simp only [Bool.and_eq_true, Bool.or_eq_true, Bool.or_eq_false_iff, Bool.and_eq_false_iff, Bool.not_eq_true', Bool.not_eq_false', decide_eq_true_eq, decide_eq_false_iff_not, beq_iff_eq, bne_iff_ne, List.length_map, List.length_take] at hc2; omega)) (by first | omega | ((try simp only [List.length_map, List.length_take, List.length_cons, List.length_nil, chunks_len, szR] at *); omega) | (have hc2 := hc; simp only [Bool.and_eq_true, Bool.or_eq_true, Bool.or_eq_false_iff, Bool.and_eq_false_iff, Bool.not_eq_true', Bool.not_eq_false', decide_eq_true_eq, decide_eq_false_iff_not, beq_iff_eq, bne_iff_ne, List.length_map, List.length_take] at hc2; omega))) ?_
      refine ch_plain rfl rfl (w_loadX 0 rfl (ev_tmp rfl) rfl Try.isAgg43 Try.sizeOf43 (by simp only [Int.toNat_natCast, List.getElem?_map, hx, Option.map_some]; rfl) (by decide)) ?_
      refine ch_plain rfl rfl (w_move rfl (ev_tmp rfl)) ?_
      refine ch_plain rfl rfl (w_move rfl (ev_tmp rfl)) ?_
      refine ch_plain rfl rfl (w_subi rfl (ev_tmp rfl) ev_ci (by first | omega | ((try simp only [List.length_map, List.length_take, List.length_cons, List.length_nil, chunks_len, szR] at *); omega) | (have hc2 := hc; simp only [Bool.and_eq_true, Bool.or_eq_true, Bool.or_eq_false_iff, Bool.and_eq_false_iff, Bool.not_eq_true', Bool.not_eq_false', decide_eq_true_eq, decide_eq_false_iff_not, beq_iff_eq, bne_iff_ne, List.length_map, List.length_take] at hc2; omega))) ?_
      refine ch_plain rfl rfl (w_aidx 0 rfl Try.underlying24 Try.sizeOf43 (ev_tmp rfl) rfl (ev_tmp rfl) (by first | omega | ((try simp only [List.length_map, List.length_take, List.length_cons, List.length_nil, chunks_len, szR] at *); omega) | (have hc2 := hc; simp only [Bool.and_eq_true, Bool.or_eq_true, Bool.or_eq_false_iff, Bool.and_eq_false_iff, Bool.not_eq_true', Bool.not_eq_false', decide_eq_true_eq, decide_eq_false_iff_not, beq_iff_eq, bne_iff_ne, List.length_map, List.length_take] at hc2; omega)) (by first | omega | ((try simp only [List.length_map, List.length_take, List.length_cons, List.length_nil, chunks_len, szR] at *); omega) | (have hc2 := hc; simp only [Bool.and_eq_true, Bool.or_eq_true, Bool.or_eq_false_iff, Bool.and_eq_false_iff, Bool.not_eq_true', Bool.not_eq_false', decide_eq_true_eq, decide_eq_false_iff_not, beq_iff_eq, bne_iff_ne, List.length_map, List.length_take] at hc2; omega))) ?_
      refine ch_plain rfl rfl (w_loadX 0 rfl (ev_tmp rfl) rfl Try.isAgg43 Try.sizeOf43 (by rw [show ((k : Int) - 1).toNat = k - 1 by omega]; simp only [List.getElem?_map, hy, Option.map_some]; rfl) (by decide)) ?_
      refine ch_plain rfl rfl (w_aeql rfl Try.underlying43 (by kernel_rfl) (by kernel_rfl) (ev_tmp rfl) (ev_tmp rfl) (eqf_cons (by kernel_rfl) Try.isAgg3 rfl rfl (eqf_int Try.underlying3) (eqf_cons (by kernel_rfl) Try.isAgg3 rfl rfl (eqf_int Try.underlying3) (eqf_cons (by kernel_rfl) Try.isAgg9 rfl rfl (eqf_str Try.underlying9) (eqf_cons (by kernel_rfl) Try.isAgg9 rfl rfl (eqf_str Try.underlying9) (eqf_cons (by kernel_rfl) Try.isAgg4 rfl rfl (eqf_bool Try.underlying4) eqf_nil)))))) ?_
      refine ch_nil ?_
      refine awp_cond (ev_tmp rfl) ?_ ?_
      · intro h25
        have hxy : l[k]? = l[k - 1]? := by (rw [hx, hy]; exact congrArg some (of_decide_eq_true (by rw [← item_beq]; exact h25)))
        have hinv0 := hinv
        refine awp_seq ?_
        refine awp_region ?_
        refine sq_plain rfl rfl rfl (w_move rfl (ev_tmp rfl)) ?_
        refine sq_plain rfl rfl rfl (w_move rfl (ev_tmp rfl)) ?_
        refine sq_plain rfl rfl rfl (w_alo 0 rfl Try.underlying24 Try.sizeOf43 (ev_tmp rfl) rfl (ev_tmp rfl) (by first | omega | ((try simp only [List.length_map, List.length_take, List.length_cons, List.length_nil, chunks_len, szR] at *); omega) | (have hc2 := hc; simp only [Bool.and_eq_true, Bool.or_eq_true, Bool.or_eq_false_iff, Bool.and_eq_false_iff, Bool.not_eq_true', Bool.not_eq_false', decide_eq_true_eq, decide_eq_false_iff_not, beq_iff_eq, bne_iff_ne, List.length_map, List.length_take] at hc2; omega)) (by first | omega | ((try simp only [List.length_map, List.length_take, List.length_cons, List.length_nil, chunks_len, szR] at *); omega) | (have hc2 := hc; simp only [Bool.and_eq_true, Bool.or_eq_true, Bool.or_eq_false_iff, Bool.and_eq_false_iff, Bool.not_eq_true', Bool.not_eq_false', decide_eq_true_eq, decide_eq_false_iff_not, beq_iff_eq, bne_iff_ne, List.length_map, List.length_take] at hc2; omega))) ?_
        refine sq_plain rfl rfl rfl (w_assign rfl (ev_tmp rfl)) ?_
        refine sq_nil ?_
        refine awp_seq ?_
        refine awp_seq ?_
        refine awp_region ?_
        refine sq_plain rfl rfl rfl (w_assign rfl ev_ci) ?_
        refine sq_nil ?_
        refine awp_block ?_
        refine awp_loop_i3 [(0, _), (4, _), (10, _), (11, _), (12, _), (13, _), (16, _), (17, _), (18, _), (19, _), (20, _), (21, _), (22, _), (23, _), (24, _), (25, _), (26, _), (27, _), (28, _)] _ (fun (i : Nat) (j : Nat) (m : List TFeedItem) => 1 ≤ j ∧ k + j ≤ l.length ∧ i + 1 ≤ k + j ∧ m.length = l.length ∧ m.take i = cmpN l (k + j) ∧ m.drop (k + j - 1) = l.drop (k + j - 1)) (fun (i : Nat) (j : Nat) (m : List TFeedItem) => [.arr v 43 5 (m.map TFeedItem.cs)]) (fun (i : Nat) (j : Nat) (m : List TFeedItem) => [(3, AV.int i), (5, AV.int j)]) (fun (i : Nat) (j : Nat) (m : List TFeedItem) => l.length - (k + j)) (k) (1) (l) ?_ (le_eq (by rfl) ⟨rfl, rfl, rfl, rfl, rfl, rfl, rfl, rfl, rfl, rfl, rfl, rfl, rfl, rfl, rfl, rfl, rfl, rfl, rfl, rfl, rfl, trivial⟩) ?_
        · exact ⟨Nat.le_refl _, by omega, by omega, rfl, by rw [cmpN_same (by omega) hxy, cmpN_take (by omega) hinv0.2], rfl⟩
        intro i j m hinv
        refine awp_seq ?_
        refine awp_seq ?_
        refine awp_region ?_
        refine sq_plain rfl rfl rfl (w_move rfl (ev_tmp rfl)) ?_
        refine sq_plain rfl rfl rfl (w_move rfl (ev_tmp rfl)) ?_
        refine sq_plain rfl rfl rfl (w_tlen 0 rfl Try.underlying24 (ev_tmp rfl) rfl) ?_
        refine sq_plain rfl rfl rfl (w_lss rfl (ev_tmp rfl) (ev_tmp rfl)) ?_
        refine sq_nil ?_
        refine awp_cond (ev_tmp rfl) ?_ ?_
        · intro h32
          have k32 := of_decide_eq_true h32; try simp only [List.length_map] at k32
          have hm := hinv.2.2.2.1
          have hlt1 : k + j < l.length := by omega
          obtain ⟨x1, hx1⟩ := get_some hlt1
          obtain ⟨y1, hy1⟩ := get_some (show k + j - 1 < l.length by omega)
          have hmx := drop_eq_get2 hinv.2.2.2.2.2 hx1 (by omega)
          have hmy := drop_eq_get2 hinv.2.2.2.2.2 hy1 (by omega)
          refine awp_skip ?_
          refine awp_seq ?_
          refine awp_block ?_
          refine awp_seq ?_
          refine awp_region_any (by kernel_rfl) (by kernel_rfl) rfl ?_
          refine ch_plain rfl rfl (w_move rfl (ev_tmp rfl)) ?_
          refine ch_plain rfl rfl (w_move rfl (ev_tmp rfl)) ?_
          refine ch_plain rfl rfl (w_tidx 0 rfl Try.underlying24 Try.sizeOf43 (ev_tmp rfl) rfl (ev_tmp rfl) (by omega) (by simp only [List.length_map]; omega)) ?_
          refine ch_plain rfl rfl (w_loadX 0 rfl (ev_tmp rfl) rfl Try.isAgg43 Try.sizeOf43 (by rw [show ((k : Int).toNat + (j : Int).toNat) = k + j by omega]; simp only [List.getElem?_map, hmx, Option.map_some]; rfl) (by decide)) ?_
          refine ch_plain rfl rfl (w_move rfl (ev_tmp rfl)) ?_
          refine ch_plain rfl rfl (w_move rfl (ev_tmp rfl)) ?_
          refine ch_plain rfl rfl (w_subi rfl (ev_tmp rfl) ev_ci (by first | omega | ((try simp only [List.length_map, List.length_take, List.length_cons, List.length_nil, chunks_len, szR] at *); omega) | (have hc2 := hc; simp only [Bool.and_eq_true, Bool.or_eq_true, Bool.or_eq_false_iff, Bool.and_eq_false_iff, Bool.not_eq_true', Bool.not_eq_false', decide_eq_true_eq, decide_eq_false_iff_not, beq_iff_eq, bne_iff_ne, List.length_map, List.length_take] at hc2; omega))) ?_
          refine ch_plain rfl rfl (w_tidx 0 rfl Try.underlying24 Try.sizeOf43 (ev_tmp rfl) rfl (ev_tmp rfl) (by omega) (by simp only [List.length_map]; omega)) ?_
          refine ch_plain rfl rfl (w_loadX 0 rfl (ev_tmp rfl) rfl Try.isAgg43 Try.sizeOf43 (by rw [show ((k : Int).toNat + ((j : Int) - 1).toNat) = k + j - 1 by omega]; simp only [List.getElem?_map, hmy, Option.map_some]; rfl) (by decide)) ?_
          refine ch_plain rfl rfl (w_aneq rfl Try.underlying43 (by kernel_rfl) (by kernel_rfl) (ev_tmp rfl) (ev_tmp rfl) (eqf_cons (by kernel_rfl) Try.isAgg3 rfl rfl (eqf_int Try.underlying3) (eqf_cons (by kernel_rfl) Try.isAgg3 rfl rfl (eqf_int Try.underlying3) (eqf_cons (by kernel_rfl) Try.isAgg9 rfl rfl (eqf_str Try.underlying9) (eqf_cons (by kernel_rfl) Try.isAgg9 rfl rfl (eqf_str Try.underlying9) (eqf_cons (by kernel_rfl) Try.isAgg4 rfl rfl (eqf_bool Try.underlying4) eqf_nil)))))) ?_
          refine ch_nil ?_
          refine awp_cond (ev_tmp rfl) ?_ ?_
          · intro h44
            refine awp_seq ?_
            refine awp_region ?_
            refine sq_plain rfl rfl rfl (w_move rfl (ev_tmp rfl)) ?_
            refine sq_plain rfl rfl rfl (w_move rfl (ev_tmp rfl)) ?_
            refine sq_plain rfl rfl rfl (w_move rfl (ev_tmp rfl)) ?_
            refine sq_plain rfl rfl rfl (w_move rfl (ev_tmp rfl)) ?_
            refine sq_plain rfl rfl rfl (w_tidx 0 rfl Try.underlying24 Try.sizeOf43 (ev_tmp rfl) rfl (ev_tmp rfl) (by omega) (by simp only [List.length_map]; omega)) ?_
            refine sq_plain rfl rfl rfl (w_loadX 0 rfl (ev_tmp rfl) rfl Try.isAgg43 Try.sizeOf43 (by rw [show ((k : Int).toNat + (j : Int).toNat) = k + j by omega]; simp only [List.getElem?_map, hmx, Option.map_some]; rfl) (by decide)) ?_
            refine sq_plain rfl rfl rfl (w_aidx 0 rfl Try.underlying24 Try.sizeOf43 (ev_tmp rfl) rfl (ev_tmp rfl) (by omega) (by simp only [List.length_map]; omega)) ?_
            refine sq_storeA 0 rfl rfl rfl (ev_tmp rfl) (ev_tmp rfl) (as_agg _) rfl Try.sizeOf43 rfl (by simp only [List.length_map, Int.toNat_natCast]; omega) ?_
            refine sq_nil ?_
            refine awp_region ?_
            refine sq_plain rfl rfl rfl (w_move rfl (ev_tmp rfl)) ?_
            refine sq_plain rfl rfl rfl (w_addi rfl (ev_tmp rfl) ev_ci (by first | omega | ((try simp only [List.length_map, List.length_take, List.length_cons, List.length_nil, chunks_len, szR] at *); omega) | (have hc2 := hc; simp only [Bool.and_eq_true, Bool.or_eq_true, Bool.or_eq_false_iff, Bool.and_eq_false_iff, Bool.not_eq_true', Bool.not_eq_false', decide_eq_true_eq, decide_eq_false_iff_not, beq_iff_eq, bne_iff_ne, List.length_map, List.length_take] at hc2; omega))) ?_
            refine sq_plain rfl rfl rfl (w_assign rfl (ev_tmp rfl)) ?_
            refine sq_nil ?_
            refine awp_region ?_
            refine sq_plain rfl rfl rfl (w_move rfl (ev_tmp rfl)) ?_
            refine sq_plain rfl rfl rfl (w_addi rfl (ev_tmp rfl) ev_ci (by first | omega | ((try simp only [List.length_map, List.length_take, List.length_cons, List.length_nil, chunks_len, szR] at *); omega) | (have hc2 := hc; simp only [Bool.and_eq_true, Bool.or_eq_true, Bool.or_eq_false_iff, Bool.and_eq_false_iff, Bool.not_eq_true', Bool.not_eq_false', decide_eq_true_eq, decide_eq_false_iff_not, beq_iff_eq, bne_iff_ne, List.length_map, List.length_take] at hc2; omega))) ?_
            refine sq_plain rfl rfl rfl (w_assign rfl (ev_tmp rfl)) ?_
            refine sq_nil ?_
            refine round_end3 i j m (i + 1) (j + 1) (m.set i x1) ?_ ?_ (le_eq (by first | exact congrArg (fun z => [Own.arr v 43 5 z]) (List.map_set).symm | rfl) ⟨rfl, rfl, rfl, rfl, rfl, rfl, rfl, rfl, rfl, rfl, rfl, rfl, rfl, rfl, rfl, rfl, rfl, rfl, rfl, rfl, rfl, trivial⟩)
            · exact cmp_keep hinv (by omega) hx1 hy1 (by rw [item_beq] at h44; simpa using h44)
            · omega
          · intro h44
            refine awp_skip ?_
            refine awp_region ?_
            refine sq_plain rfl rfl rfl (w_move rfl (ev_tmp rfl)) ?_
            refine sq_plain rfl rfl rfl (w_addi rfl (ev_tmp rfl) ev_ci (by first | omega | ((try simp only [List.length_map, List.length_take, List.length_cons, List.length_nil, chunks_len, szR] at *); omega) | (have hc2 := hc; simp only [Bool.and_eq_true, Bool.or_eq_true, Bool.or_eq_false_iff, Bool.and_eq_false_iff, Bool.not_eq_true', Bool.not_eq_false', decide_eq_true_eq, decide_eq_false_iff_not, beq_iff_eq, bne_iff_ne, List.length_map, List.length_take] at hc2; omega))) ?_
            refine sq_plain rfl rfl rfl (w_assign rfl (ev_tmp rfl)) ?_
            refine sq_nil ?_
            refine round_end3 i j m (i) (j + 1) (m) ?_ ?_ (le_eq (by first | exact congrArg (fun z => [Own.arr v 43 5 z]) (List.map_set).symm | rfl) ⟨rfl, rfl, rfl, rfl, rfl, rfl, rfl, rfl, rfl, rfl, rfl, rfl, rfl, rfl, rfl, rfl, rfl, rfl, rfl, rfl, rfl, trivial⟩)
            · exact cmp_skip hinv (by omega) hx1 hy1 (by rw [item_beq] at h44; simpa using h44)
            · omega
        · intro h32
          have k32 := of_decide_eq_false h32; try simp only [List.length_map] at k32
          have hm := hinv.2.2.2.1
          have hge : k + j = l.length := by omega
          refine awp_exit ?_
          refine awp_seq ?_
          refine awp_region ?_
          refine sq_plain rfl rfl rfl (w_move rfl (ev_tmp rfl)) ?_
          refine sq_plain rfl rfl rfl (w_move rfl (ev_tmp rfl)) ?_
          refine sq_plain rfl rfl rfl (w_alo 0 rfl Try.underlying24 Try.sizeOf43 (ev_tmp rfl) rfl (ev_tmp rfl) (by first | omega | ((try simp only [List.length_map, List.length_take, List.length_cons, List.length_nil, chunks_len, szR] at *); omega) | (have hc2 := hc; simp only [Bool.and_eq_true, Bool.or_eq_true, Bool.or_eq_false_iff, Bool.and_eq_false_iff, Bool.not_eq_true', Bool.not_eq_false', decide_eq_true_eq, decide_eq_false_iff_not, beq_iff_eq, bne_iff_ne, List.length_map, List.length_take] at hc2; omega)) (by first | omega | ((try simp only [List.length_map, List.length_take, List.length_cons, List.length_nil, chunks_len, szR] at *); omega) | (have hc2 := hc; simp only [Bool.and_eq_true, Bool.or_eq_true, Bool.or_eq_false_iff, Bool.and_eq_false_iff, Bool.not_eq_true', Bool.not_eq_false', decide_eq_true_eq, decide_eq_false_iff_not, beq_iff_eq, bne_iff_ne, List.length_map, List.length_take] at hc2; omega))) ?_
          refine sq_aclear 0 rfl rfl rfl Try.underlying24 Try.zeroValue43 rfl rfl (by decide) (ev_tmp rfl) rfl (by simp only [List.length_map, Int.toNat_natCast]; omega) ?_
          refine sq_nil ?_
          refine awp_seq ?_
          refine awp_region ?_
          refine sq_plain rfl rfl rfl (w_move rfl (ev_tmp rfl)) ?_
          refine sq_plain rfl rfl rfl (w_move rfl (ev_tmp rfl)) ?_
          refine sq_ahi 0 rfl rfl rfl rfl Try.underlying24 Try.sizeOf43 (ev_tmp rfl) rfl (ev_tmp rfl) (by omega) (by simp only [List.length_map, List.length_append, List.length_take, List.length_replicate]; omega) ?_
          intro v59_1
          refine sq_plain rfl rfl rfl (w_assign rfl (ev_tmp rfl)) ?_
          refine sq_nil ?_
          refine awp_ret ?_
          exact retG [0] v59_1 (trivial) rfl (by first | exact congrArg (fun z => [Own.arr _ 43 5 (List.map TFeedItem.cs z)]) hall | (refine congrArg (fun z => [Own.arr _ 43 5 z]) ?_; exact (cmp_end hinv.2.2.2.2.1 hge (by omega)).symm)) (resR rfl (rv_tmp' rfl (by first | rfl | (refine congrArg AV.bool ?_; simp_all; done))))
      · intro h25
        refine awp_skip ?_
        refine awp_region ?_
        refine sq_plain rfl rfl rfl (w_move rfl (ev_tmp rfl)) ?_
        refine sq_plain rfl rfl rfl (w_addi rfl (ev_tmp rfl) ev_ci (by first | omega | ((try simp only [List.length_map, List.length_take, List.length_cons, List.length_nil, chunks_len, szR] at *); omega) | (have hc2 := hc; simp only [Bool.and_eq_true, Bool.or_eq_true, Bool.or_eq_false_iff, Bool.and_eq_false_iff, Bool.not_eq_true', Bool.not_eq_false', decide_eq_true_eq, decide_eq_false_iff_not, beq_iff_eq, bne_iff_ne, List.length_map, List.length_take] at hc2; omega))) ?_
        refine sq_plain rfl rfl rfl (w_assign rfl (ev_tmp rfl)) ?_
        refine sq_nil ?_
        refine round_end k (k + 1) ?_ ?_ (le_env ⟨rfl, rfl, trivial⟩)
        · exact ⟨⟨by omega, by omega⟩, fun i h1 h2 => if e : i = k then (by subst e; rw [hx, hy]; intro e; injection e with e; rw [item_beq, decide_eq_false_iff_not] at h25; exact h25 e) else hinv.2 i h1 (by omega)⟩
        · omega
    · intro h13
      have k13 := of_decide_eq_false h13; try simp only [List.length_map] at k13
      have hall : cmpL l = l := by (unfold cmpL; rw [cmpN_take (Nat.le_refl _) (fun i h1 h2 => hinv.2 i h1 (by omega)), List.take_length])
      refine awp_exit ?_
      refine awp_seq ?_
      refine awp_region ?_
      refine sq_plain rfl rfl rfl (w_move rfl (ev_tmp rfl)) ?_
      refine sq_plain rfl rfl rfl (w_assign rfl (ev_tmp rfl)) ?_
      refine sq_nil ?_
      refine awp_ret ?_
      exact retG [0] v (trivial) rfl (by first | exact congrArg (fun z => [Own.arr _ 43 5 (List.map TFeedItem.cs z)]) hall | (refine congrArg (fun z => [Own.arr _ 43 5 z]) ?_; exact (cmp_end hinv.2.2.2.2.1 hge (by omega)).symm)) (resR rfl (rv_tmp' rfl (by first | rfl | (refine congrArg AV.bool ?_; simp_all; done))))

theorem grow_own (m : Nat) (hm : m ≤ 4194304) : GSpec Try.prog 34 [AV.nils, AV.int m] [] (fun _ : Value => True) (fun v => [.arr v 43 5 []]) (fun v => AV.is v) := by
  refine gspec_of_awp Try.func34 rfl Try.ntmps34 rfl ?_
  refine awp_seq ?_
  refine awp_region ?_
  refine sq_plain rfl rfl rfl (w_assign rfl ev_cnils) ?_
  refine sq_nil ?_
  refine awp_seq ?_
  refine awp_seq ?_
  refine awp_region ?_
  refine sq_plain rfl rfl rfl (w_move rfl (ev_tmp rfl)) ?_
  refine sq_plain rfl rfl rfl (w_lss rfl (ev_tmp rfl) ev_ci) ?_
  refine sq_nil ?_
  refine awp_cond (ev_tmp rfl) ?_ ?_
  · intro h6
    have k6 := of_decide_eq_true h6; try simp only [List.length_map] at k6
    exfalso; omega
  · intro h6
    have k6 := of_decide_eq_false h6; try simp only [List.length_map] at k6
    refine awp_skip ?_
    refine awp_seq ?_
    refine awp_seq ?_
    refine awp_region ?_
    refine sq_plain rfl rfl rfl (w_move rfl (ev_tmp rfl)) ?_
    refine sq_plain rfl rfl rfl (w_move rfl (ev_tmp rfl)) ?_
    refine sq_plain rfl rfl rfl (w_vcap rfl Try.underlying24 (ev_tmp rfl)) ?_
    refine sq_plain rfl rfl rfl (w_move rfl (ev_tmp rfl)) ?_
    refine sq_plain rfl rfl rfl (w_vlen rfl Try.underlying24 (ev_tmp rfl)) ?_
    refine sq_plain rfl rfl rfl (w_subi rfl (ev_tmp rfl) (ev_tmp rfl) (by first | omega | ((try simp only [List.length_map, List.length_take, List.length_cons, List.length_nil, chunks_len, szR] at *); omega) | (have hc2 := hc; simp only [Bool.and_eq_true, Bool.or_eq_true, Bool.or_eq_false_iff, Bool.and_eq_false_iff, Bool.not_eq_true', Bool.not_eq_false', decide_eq_true_eq, decide_eq_false_iff_not, beq_iff_eq, bne_iff_ne, List.length_map, List.length_take] at hc2; omega))) ?_
    refine sq_plain rfl rfl rfl (w_subi rfl (ev_tmp rfl) (ev_tmp rfl) (by first | omega | ((try simp only [List.length_map, List.length_take, List.length_cons, List.length_nil, chunks_len, szR] at *); omega) | (have hc2 := hc; simp only [Bool.and_eq_true, Bool.or_eq_true, Bool.or_eq_false_iff, Bool.and_eq_false_iff, Bool.not_eq_true', Bool.not_eq_false', decide_eq_true_eq, decide_eq_false_iff_not, beq_iff_eq, bne_iff_ne, List.length_map, List.length_take] at hc2; omega))) ?_
    refine sq_plain rfl rfl rfl (w_assign rfl (ev_tmp rfl)) ?_
    refine sq_nil ?_
    refine awp_seq ?_
    refine awp_region ?_
    refine sq_plain rfl rfl rfl (w_move rfl (ev_tmp rfl)) ?_
    refine sq_plain rfl rfl rfl (w_gtr rfl (ev_tmp rfl) ev_ci) ?_
    refine sq_nil ?_
    refine awp_cond (ev_tmp rfl) ?_ ?_
    · intro h16
      have k16 := of_decide_eq_true h16; try simp only [List.length_map] at k16
      refine awp_region ?_
      refine sq_plain rfl rfl rfl (w_move rfl (ev_tmp rfl)) ?_
      refine sq_plain rfl rfl rfl (w_move rfl (ev_tmp rfl)) ?_
      refine sq_plain rfl rfl rfl (w_vcap rfl Try.underlying24 (ev_tmp rfl)) ?_
      refine sq_plain rfl rfl rfl (w_nilhi rfl Try.underlying24 Try.sizeOf43 (ev_tmp rfl) (ev_tmp rfl)) ?_
      refine sq_plain rfl rfl rfl (w_move rfl (ev_tmp rfl)) ?_
      refine sq_appendZ0 (by' := 56) (m := m) rfl rfl rfl rfl Try.underlying24 Try.underlying3 Try.type43 rfl rfl rfl rfl rfl rfl (ev_tmp rfl) (ev_tmp (congrArg (fun z => some (AV.int z)) (by omega))) (by omega) (by omega) (by omega) ?_
      intro v22
      refine sq_plain rfl rfl rfl (w_move rfl (ev_tmp rfl)) ?_
      refine sq_plain rfl rfl rfl (w_vlen rfl Try.underlying24 (ev_tmp rfl)) ?_
      refine sq_ahi 0 rfl rfl rfl rfl Try.underlying24 Try.sizeOf43 (ev_tmp rfl) rfl (ev_tmp rfl) (by first | omega | ((try simp only [List.length_map, List.length_take, List.length_cons, List.length_nil, chunks_len, szR] at *); omega) | (have hc2 := hc; simp only [Bool.and_eq_true, Bool.or_eq_true, Bool.or_eq_false_iff, Bool.and_eq_false_iff, Bool.not_eq_true', Bool.not_eq_false', decide_eq_true_eq, decide_eq_false_iff_not, beq_iff_eq, bne_iff_ne, List.length_map, List.length_take] at hc2; omega)) (by first | omega | ((try simp only [List.length_map, List.length_take, List.length_cons, List.length_nil, chunks_len, szR] at *); omega) | (have hc2 := hc; simp only [Bool.and_eq_true, Bool.or_eq_true, Bool.or_eq_false_iff, Bool.and_eq_false_iff, Bool.not_eq_true', Bool.not_eq_false', decide_eq_true_eq, decide_eq_false_iff_not, beq_iff_eq, bne_iff_ne, List.length_map, List.length_take] at hc2; omega)) ?_
      intro v25_1
      refine sq_plain rfl rfl rfl (w_assign rfl (ev_tmp rfl)) ?_
      refine sq_nil ?_
      refine awp_seq ?_
      refine awp_region ?_
      refine sq_plain rfl rfl rfl (w_move rfl (ev_tmp rfl)) ?_
      refine sq_plain rfl rfl rfl (w_assign rfl (ev_tmp rfl)) ?_
      refine sq_nil ?_
      refine awp_ret ?_
      exact retG [0] v25_1 (trivial) rfl (by rfl) (resR rfl (rv_tmp' rfl (by first | rfl | (refine congrArg AV.bool ?_; simp_all; done))))
    · intro h16
      have k16 := of_decide_eq_false h16; try simp only [List.length_map] at k16
      refine awp_skip ?_
      refine awp_seq ?_
      refine awp_region ?_
      refine sq_plain rfl rfl rfl (w_move rfl (ev_tmp rfl)) ?_
      refine sq_plain rfl rfl rfl (w_assign rfl (ev_tmp rfl)) ?_
      refine sq_nil ?_
      refine awp_ret ?_
      refine retG_nil 43 5 ?_
      exact retG [0] (Value.slice none 0 0) (trivial) rfl (by rfl) (resR rfl (rv_tmp' rfl (by first | rfl | (refine congrArg AV.bool ?_; simp_all; done))))
theorem concat_own (rows : List (List TFeedItem)) (hl : rows.flatten.length ≤ 4194304) : GSpec Try.prog 17 [AV.list 1 (rows.map fun r => [AV.list 5 (r.map TFeedItem.cs)])] [] (fun _ : Value => True) (fun v => [.arr v 43 5 (rows.flatten.map TFeedItem.cs)]) (fun v => AV.is v) := by
  refine gspec_of_awp Try.func17 rfl Try.ntmps17 rfl ?_
  refine awp_len (t := 0) rfl fun hrl => ?_
  try simp only [List.length_map] at hrl
  refine awp_seq ?_
  refine awp_region ?_
  refine sq_plain rfl rfl rfl (w_assign rfl ev_cnils) ?_
  refine sq_nil ?_
  refine awp_seq ?_
  refine awp_region ?_
  refine sq_plain rfl rfl rfl (w_assign rfl ev_ci) ?_
  refine sq_nil ?_
  refine awp_seq ?_
  refine awp_seq ?_
  refine awp_region ?_
  refine sq_plain rfl rfl rfl (w_move rfl (ev_tmp rfl)) ?_
  refine sq_plain rfl rfl rfl (w_llen rfl Try.underlying57 (ev_tmp rfl)) ?_
  refine sq_plain rfl rfl rfl (w_move rfl ev_ci) ?_
  refine sq_nil ?_
  refine awp_block ?_
  refine awp_loop_i [(0, _), (2, _), (9, _), (10, _)] _ (fun (i : Nat) => i ≤ rows.length) (fun (i : Nat) => []) (fun (i : Nat) => [(3, AV.int ((rows.take i).flatten.length : Nat)), (11, AV.int i)]) (fun (i : Nat) => rows.length - i) (0) ?_ (le_env ⟨rfl, rfl, rfl, rfl, rfl, rfl, trivial⟩) ?_
  · exact Nat.zero_le _
  intro i hinv
  refine awp_seq ?_
  refine awp_region ?_
  refine sq_plain rfl rfl rfl (w_lss rfl (ev_tmp rfl) (ev_tmp rfl)) ?_
  refine sq_nil ?_
  refine awp_seq ?_
  refine awp_cond (ev_tmp rfl) ?_ ?_
  · intro h12
    have k12 := of_decide_eq_true h12; try simp only [List.length_map] at k12
    have hlt : i < rows.length := by omega
    obtain ⟨x, hx⟩ := get_some hlt
    have hf := flat_next hx
    have hfl := flat_le rows (i + 1)
    refine awp_skip ?_
    refine awp_seq ?_
    refine awp_block ?_
    refine awp_seq ?_
    refine awp_region ?_
    refine sq_plain rfl rfl rfl (w_idxm rfl Try.underlying57 Try.sizeOf24 (ev_tmp rfl) (ev_tmp rfl) hx (by first | omega | ((try simp only [List.length_map, List.length_take, List.length_cons, List.length_nil, chunks_len, szR] at *); omega) | (have hc2 := hc; simp only [Bool.and_eq_true, Bool.or_eq_true, Bool.or_eq_false_iff, Bool.and_eq_false_iff, Bool.not_eq_true', Bool.not_eq_false', decide_eq_true_eq, decide_eq_false_iff_not, beq_iff_eq, bne_iff_ne, List.length_map, List.length_take] at hc2; omega))) ?_
    refine sq_plain rfl rfl rfl (w_loadE1 rfl (ev_tmp rfl) Try.isAgg24 rfl) ?_
    refine sq_plain rfl rfl rfl (w_assign rfl (ev_tmp rfl)) ?_
    refine sq_nil ?_
    refine awp_seq ?_
    refine awp_region ?_
    refine sq_plain rfl rfl rfl (w_move rfl (ev_tmp rfl)) ?_
    refine sq_plain rfl rfl rfl (w_move rfl (ev_tmp rfl)) ?_
    refine sq_plain rfl rfl rfl (w_llen rfl Try.underlying24 (ev_tmp rfl)) ?_
    refine sq_plain rfl rfl rfl (w_addi rfl (ev_tmp rfl) (ev_tmp rfl) (by first | omega | ((try simp only [List.length_map, List.length_take, List.length_cons, List.length_nil, chunks_len, szR] at *); omega) | (have hc2 := hc; simp only [Bool.and_eq_true, Bool.or_eq_true, Bool.or_eq_false_iff, Bool.and_eq_false_iff, Bool.not_eq_true', Bool.not_eq_false', decide_eq_true_eq, decide_eq_false_iff_not, beq_iff_eq, bne_iff_ne, List.length_map, List.length_take] at hc2; omega))) ?_
    refine sq_plain rfl rfl rfl (w_assign rfl (ev_tmp rfl)) ?_
    refine sq_nil ?_
    refine awp_seq ?_
    refine awp_region ?_
    refine sq_plain rfl rfl rfl (w_move rfl (ev_tmp rfl)) ?_
    refine sq_plain rfl rfl rfl (w_lss rfl (ev_tmp rfl) ev_ci) ?_
    refine sq_nil ?_
    refine awp_cond (ev_tmp rfl) ?_ ?_
    · intro h20
      have k20 := of_decide_eq_true h20; try simp only [List.length_map] at k20
      exfalso; omega
    · intro h20
      have k20 := of_decide_eq_false h20; try simp only [List.length_map] at k20
      refine awp_skip ?_
      refine awp_region ?_
      refine sq_plain rfl rfl rfl (w_addi rfl (ev_tmp rfl) ev_ci (by first | omega | ((try simp only [List.length_map, List.length_take, List.length_cons, List.length_nil, chunks_len, szR] at *); omega) | (have hc2 := hc; simp only [Bool.and_eq_true, Bool.or_eq_true, Bool.or_eq_false_iff, Bool.and_eq_false_iff, Bool.not_eq_true', Bool.not_eq_false', decide_eq_true_eq, decide_eq_false_iff_not, beq_iff_eq, bne_iff_ne, List.length_map, List.length_take] at hc2; omega))) ?_
      refine sq_plain rfl rfl rfl (w_move rfl (ev_tmp rfl)) ?_
      refine sq_nil ?_
      refine round_end i (i + 1) ?_ ?_ (le_env ⟨congrArg (fun z => some (AV.int z)) (by rw [hf, List.length_map]; omega), rfl, rfl, rfl, rfl, rfl, trivial⟩)
      · omega
      · omega
  · intro h12
    have k12 := of_decide_eq_false h12; try simp only [List.length_map] at k12
    have hge : i = rows.length := by omega
    refine awp_exit ?_
    refine awp_seq ?_
    refine awp_region ?_
    refine sq_plain rfl rfl rfl (w_move rfl (ev_tmp rfl)) ?_
    refine sq_callG [] rfl rfl rfl rfl Try.call34 rfl (grow_own (rows.take i).flatten.length (by have := flat_le rows i; omega)) (evl_cons ev_cnils (evl_cons (ev_tmp rfl) evl_nil)) rfl ?_
    intro x24 ok24
    refine sq_plain rfl rfl rfl (w_assign rfl (ev_tmp rfl)) ?_
    refine sq_nil ?_
    refine awp_seq ?_
    refine awp_seq ?_
    refine awp_region ?_
    refine sq_plain rfl rfl rfl (w_move rfl (ev_tmp rfl)) ?_
    refine sq_plain rfl rfl rfl (w_llen rfl Try.underlying57 (ev_tmp rfl)) ?_
    refine sq_plain rfl rfl rfl (w_move rfl ev_ci) ?_
    refine sq_nil ?_
    refine awp_block ?_
    refine awp_loop_i2 [(2, _), (25, _), (26, _)] _ (fun (k : Nat) (v : Value) => k ≤ rows.length) (fun (k : Nat) (v : Value) => [.arr v 43 5 ((rows.take k).flatten.map TFeedItem.cs)]) (fun (k : Nat) (v : Value) => [(6, AV.is v), (27, AV.int k)]) (fun (k : Nat) (v : Value) => rows.length - k) (0) (x24) ?_ (le_eq (by rfl) ⟨rfl, rfl, rfl, rfl, rfl, trivial⟩) ?_
    · exact Nat.zero_le _
    intro k v hinv
    refine awp_seq ?_
    refine awp_region ?_
    refine sq_plain rfl rfl rfl (w_lss rfl (ev_tmp rfl) (ev_tmp rfl)) ?_
    refine sq_nil ?_
    refine awp_seq ?_
    refine awp_cond (ev_tmp rfl) ?_ ?_
    · intro h28
      have k28 := of_decide_eq_true h28; try simp only [List.length_map] at k28
      have hlt : k < rows.length := by omega
      obtain ⟨x, hx⟩ := get_some hlt
      have hf := flat_next hx
      have hfl := flat_le rows (k + 1)
      refine awp_skip ?_
      refine awp_seq ?_
      refine awp_block ?_
      refine awp_seq ?_
      refine awp_region ?_
      refine sq_plain rfl rfl rfl (w_idxm rfl Try.underlying57 Try.sizeOf24 (ev_tmp rfl) (ev_tmp rfl) hx (by first | omega | ((try simp only [List.length_map, List.length_take, List.length_cons, List.length_nil, chunks_len, szR] at *); omega) | (have hc2 := hc; simp only [Bool.and_eq_true, Bool.or_eq_true, Bool.or_eq_false_iff, Bool.and_eq_false_iff, Bool.not_eq_true', Bool.not_eq_false', decide_eq_true_eq, decide_eq_false_iff_not, beq_iff_eq, bne_iff_ne, List.length_map, List.length_take] at hc2; omega))) ?_
      refine sq_plain rfl rfl rfl (w_loadE1 rfl (ev_tmp rfl) Try.isAgg24 rfl) ?_
      refine sq_plain rfl rfl rfl (w_assign rfl (ev_tmp rfl)) ?_
      refine sq_nil ?_
      refine awp_region ?_
      refine sq_plain rfl rfl rfl (w_move rfl (ev_tmp rfl)) ?_
      refine sq_plain rfl rfl rfl (w_move rfl (ev_tmp rfl)) ?_
      refine sq_append (by' := 56) 0 rfl rfl rfl rfl Try.underlying24 Try.type43 rfl rfl rfl rfl rfl rfl (ev_tmp rfl) (ev_tmp rfl) rfl (by simp only [List.length_map]; omega) ?_
      intro v33_1
      refine sq_plain rfl rfl rfl (w_assign rfl (ev_tmp rfl)) ?_
      refine sq_nil ?_
      refine awp_region ?_
      refine sq_plain rfl rfl rfl (w_addi rfl (ev_tmp rfl) ev_ci (by first | omega | ((try simp only [List.length_map, List.length_take, List.length_cons, List.length_nil, chunks_len, szR] at *); omega) | (have hc2 := hc; simp only [Bool.and_eq_true, Bool.or_eq_true, Bool.or_eq_false_iff, Bool.and_eq_false_iff, Bool.not_eq_true', Bool.not_eq_false', decide_eq_true_eq, decide_eq_false_iff_not, beq_iff_eq, bne_iff_ne, List.length_map, List.length_take] at hc2; omega))) ?_
      refine sq_plain rfl rfl rfl (w_move rfl (ev_tmp rfl)) ?_
      refine sq_nil ?_
      refine round_end2 k v (k + 1) (v33_1) ?_ ?_ (le_eq (by exact congrArg (fun z => [Own.arr _ 43 5 z]) (by rw [flat_app hx, List.map_append])) ⟨rfl, rfl, rfl, rfl, rfl, trivial⟩)
      · omega
      · omega
    · intro h28
      have k28 := of_decide_eq_false h28; try simp only [List.length_map] at k28
      have hge : k = rows.length := by omega
      refine awp_exit ?_
      refine awp_seq ?_
      refine awp_region ?_
      refine sq_plain rfl rfl rfl (w_move rfl (ev_tmp rfl)) ?_
      refine sq_plain rfl rfl rfl (w_assign rfl (ev_tmp rfl)) ?_
      refine sq_nil ?_
      refine awp_ret ?_
      exact retG [0] v (trivial) rfl (by exact congrArg (fun z => [Own.arr _ 43 5 (List.map TFeedItem.cs (List.flatten z))]) (by rw [hge, List.take_length])) (resR rfl (rv_tmp' rfl (by first | rfl | (refine congrArg AV.bool ?_; simp_all; done))))
end Go.Proofs.Ytcglmbinmfkafaa

set_option linter.unusedVariables false
set_option linter.unusedSimpArgs false
set_option linter.unusedSectionVars false
namespace Go.M
open Go.AV
section
variable {α : Type} [Inhabited α]
theorem swpR_get {l : List α} {a b : Nat} : ∀ {n : Nat}, a + n ≤ b → b + n ≤ l.length → ∀ k, (swpR l a b n)[k]? = if a ≤ k ∧ k < a + n then l[b + (k - a)]? else if b ≤ k ∧ k < b + n then l[a + (k - b)]? else l[k]?
  | 0, _, _, k => by rw [if_neg (by omega), if_neg (by omega)]; rfl
  | n + 1, h1, h2, k => by
    show (swp (swpR l a b n) (a + n) (b + n))[k]? = _
    have hl := swpR_len l a b n
    rw [swp_get (by omega) (by omega), swpR_get (by omega) (by omega) (a + n), swpR_get (by omega) (by omega) (b + n), swpR_get (by omega) (by omega) k]
    rw [if_neg (show ¬(a ≤ a + n ∧ a + n < a + n) by omega), if_neg (show ¬(b ≤ a + n ∧ a + n < b + n) by omega), if_neg (show ¬(a ≤ b + n ∧ b + n < a + n) by omega), if_neg (show ¬(b ≤ b + n ∧ b + n < b + n) by omega)]
    by_cases e1 : k = b + n
    · subst e1
      rw [if_pos rfl, if_neg (by omega), if_pos (by omega)]
      congr 1; omega
    · rw [if_neg e1]
      by_cases e2 : k = a + n
      · subst e2
        rw [if_pos rfl, if_pos (by omega)]
        congr 1; omega
      · rw [if_neg e2]
        by_cases e3 : a ≤ k ∧ k < a + n
        · rw [if_pos e3, if_pos (by omega)]
        · rw [if_neg e3, if_neg (show ¬(a ≤ k ∧ k < a + (n + 1)) by omega)]
          by_cases e4 : b ≤ k ∧ k < b + n
          · rw [if_pos e4, if_pos (by omega)]
          · rw [if_neg e4, if_neg (by omega)]
theorem shuf_swpR {l : List α} {lo hi a b : Nat} : ∀ {n : Nat}, a + n ≤ l.length → b + n ≤ l.length → lo ≤ a → a + n ≤ hi → lo ≤ b → b + n ≤ hi → Shuf l (swpR l a b n) lo hi
  | 0, _, _, _, _, _, _ => Shuf.refl l lo hi
  | n + 1, h1, h2, h3, h4, h5, h6 => by
    have hl := swpR_len l a b n
    exact (shuf_swpR (by omega) (by omega) h3 (by omega) h5 (by omega)).trans (shuf_swp (by omega) (by omega) (by omega) (by omega))
/-- The blocks [a, m) and [m, b) of l have changed places in t. -/
structure Rot (l t : List α) (a m b : Nat) : Prop where
  out : ∀ k, k < a ∨ b ≤ k → t[k]? = l[k]?
  fst : ∀ k, k < b - m → t[a + k]? = l[m + k]?
  snd : ∀ k, k < m - a → t[a + (b - m) + k]? = l[a + k]?
theorem rot_step1 {l t : List α} {m i j : Nat} (hi : i ≤ m) (hij : j < i) (hl : m + j ≤ l.length) (h : Rot (swpR l (m - i) m j) t (m - (i - j)) m (m + j)) : Rot l t (m - i) m (m + j) where
  out k hk := by rw [h.out k (by omega), swpR_get (by omega) hl, if_neg (by omega), if_neg (by omega)]
  fst k hk := by
    rw [h.out (m - i + k) (by omega), swpR_get (by omega) hl, if_pos (by omega)]
    congr 1; omega
  snd k hk := by
    by_cases e : k < j
    · have h1 := h.fst k (by omega)
      rw [show m - i + (m + j - m) + k = m - (i - j) + k by omega, h1, swpR_get (by omega) hl, if_neg (by omega), if_pos (by omega)]
      congr 1; omega
    · have h1 := h.snd (k - j) (by omega)
      rw [show m - i + (m + j - m) + k = m - (i - j) + (m + j - m) + (k - j) by omega, h1, swpR_get (by omega) hl, if_neg (by omega), if_neg (by omega)]
      congr 1; omega
theorem rot_step2 {l t : List α} {m i j : Nat} (hi : i ≤ m) (hij : i < j) (hl : m + j ≤ l.length) (h : Rot (swpR l (m - i) (m + j - i) i) t (m - i) m (m + (j - i))) : Rot l t (m - i) m (m + j) where
  out k hk := by rw [h.out k (by omega), swpR_get (by omega) (by omega), if_neg (by omega), if_neg (by omega)]
  fst k hk := by
    by_cases e : k < j - i
    · rw [h.fst k (by omega), swpR_get (by omega) (by omega), if_neg (by omega), if_neg (by omega)]
    · have h1 := h.snd (k - (j - i)) (by omega)
      rw [show m - i + k = m - i + (m + (j - i) - m) + (k - (j - i)) by omega, h1, swpR_get (by omega) (by omega), if_pos (by omega)]
      congr 1; omega
  snd k hk := by
    rw [h.out _ (by omega), swpR_get (by omega) (by omega), if_neg (by omega), if_pos (by omega)]
    congr 1; omega
theorem rot_end {l : List α} {m i : Nat} (hi : i ≤ m) (hl : m + i ≤ l.length) : Rot l (swpR l (m - i) m i) (m - i) m (m + i) where
  out k hk := by rw [swpR_get (by omega) hl, if_neg (by omega), if_neg (by omega)]
  fst k hk := by
    rw [swpR_get (by omega) hl, if_pos (by omega)]
    congr 1; omega
  snd k hk := by
    rw [swpR_get (by omega) hl, if_neg (by omega), if_pos (by omega)]
    congr 1; omega
end
end Go.M

set_option linter.unusedVariables false
set_option linter.unusedSimpArgs false
set_option linter.unusedSectionVars false
namespace Go.M
open Go.AV
section
variable {α : Type} [Inhabited α] {lt : α → α → Bool}
def CrossOn (lt : α → α → Bool) (l : List α) (a b c d : Nat) : Prop := ∀ (i j : Nat) (x y : α), a ≤ i → i < b → c ≤ j → j < d → l[i]? = some x → l[j]? = some y → lt y x = false
theorem sorted_glue {l : List α} {a c b : Nat} (h1 : SortedOn lt l a c) (h2 : SortedOn lt l c b) (h3 : CrossOn lt l a c c b) : SortedOn lt l a b := by
  intro i j x y e1 e2 e3 hx hy
  by_cases e : j < c
  · exact h1 i j x y e1 e2 e hx hy
  · by_cases f : i < c
    · exact h3 i j x y e1 f (by omega) e3 hx hy
    · exact h2 i j x y (by omega) e2 e3 hx hy
theorem sorted_sub {l : List α} {a b a' b' : Nat} (h : SortedOn lt l a b) (h1 : a ≤ a') (h2 : b' ≤ b) : SortedOn lt l a' b' :=
  fun i j x y e1 e2 e3 hx hy => h i j x y (by omega) e2 (by omega) hx hy
theorem sorted_cross {l : List α} {a b c d e f : Nat} (h : SortedOn lt l a b) (h1 : a ≤ c) (h2 : d ≤ e) (h3 : f ≤ b) : CrossOn lt l c d e f :=
  fun i j x y e1 e2 e3 e4 hx hy => h i j x y (by omega) (by omega) (by omega) hx hy
theorem Shuf.sorted_out {l l' : List α} {a b c d : Nat} (h : Shuf l l' a b) (hcd : d ≤ a ∨ b ≤ c) (k : SortedOn lt l c d) : SortedOn lt l' c d := by
  intro i j x y e1 e2 e3 hx hy
  rw [h.out i (by omega)] at hx
  rw [h.out j (by omega)] at hy
  exact k i j x y e1 e2 e3 hx hy
theorem Shuf.wide {l l' : List α} {a b c d : Nat} (h : Shuf l l' a b) (h1 : c ≤ a) (h2 : b ≤ d) : Shuf l l' c d := by
  refine ⟨h.len, h.perm, fun i hi => h.out i (by omega), ?_⟩
  rintro x ⟨i, e1, e2, hx⟩
  by_cases e : a ≤ i ∧ i < b
  · obtain ⟨j, f1, f2, f3⟩ := h.inn x ⟨i, e.1, e.2, hx⟩
    exact ⟨j, by omega, by omega, f3⟩
  · rw [h.out i (by omega)] at hx
    exact ⟨i, e1, e2, hx⟩
/-- A reshuffle within one of the two halves keeps what holds across. -/
theorem Shuf.cross1 {l l' : List α} {a c b : Nat} (h : Shuf l l' a c) (k : CrossOn lt l a c c b) : CrossOn lt l' a c c b := by
  intro i j x y e1 e2 e3 e4 hx hy
  obtain ⟨i', f1, f2, f3⟩ := h.inn x ⟨i, e1, e2, hx⟩
  rw [h.out j (by omega)] at hy
  exact k i' j x y f1 f2 e3 e4 f3 hy
theorem Shuf.cross2 {l l' : List α} {a c b : Nat} (h : Shuf l l' c b) (k : CrossOn lt l a c c b) : CrossOn lt l' a c c b := by
  intro i j x y e1 e2 e3 e4 hx hy
  obtain ⟨j', f1, f2, f3⟩ := h.inn y ⟨j, e3, e4, hy⟩
  rw [h.out i (by omega)] at hx
  exact k i j' x y e1 e2 f1 f2 hx f3
section
variable {l t : List α} {a p m q b c : Nat}
/-- Where an element of t stood in l. -/
theorem Rot.at1 (h : Rot l t p m q) {i : Nat} (h1 : p ≤ i) (h2 : i < p + (q - m)) : t[i]? = l[m + (i - p)]? := by
  have h9 := h.fst (i - p) (by omega)
  rw [show p + (i - p) = i by omega] at h9
  exact h9
theorem Rot.at2 (h : Rot l t p m q) (hm : p ≤ m) (hq : m ≤ q) {i : Nat} (h1 : p + (q - m) ≤ i) (h2 : i < q) : t[i]? = l[p + (i - (p + (q - m)))]? := by
  have h9 := h.snd (i - (p + (q - m))) (by omega)
  rw [show p + (q - m) + (i - (p + (q - m))) = i by omega] at h9
  exact h9
theorem Rot.s1 (h : Rot l t p m q) (hm : p ≤ m) (hq : m ≤ q) (hs : SortedOn lt l a m) : SortedOn lt t a p := by
  intro i j x y e1 e2 e3 hx hy
  rw [h.out i (by omega)] at hx
  rw [h.out j (by omega)] at hy
  exact hs i j x y e1 e2 (by omega) hx hy
theorem Rot.s2 (h : Rot l t p m q) (hm : p ≤ m) (hq : m ≤ q) (hqb : q ≤ b) (hs : SortedOn lt l m b) : SortedOn lt t p (p + (q - m)) := by
  intro i j x y e1 e2 e3 hx hy
  rw [h.at1 (by omega) (by omega)] at hx hy
  exact hs _ _ x y (by omega) (by omega) (by omega) hx hy
theorem Rot.s3 (h : Rot l t p m q) (hap : a ≤ p) (hm : p ≤ m) (hq : m ≤ q) (hs : SortedOn lt l a m) : SortedOn lt t (p + (q - m)) q := by
  intro i j x y e1 e2 e3 hx hy
  rw [h.at2 hm hq (by omega) (by omega)] at hx hy
  exact hs _ _ x y (by omega) (by omega) (by omega) hx hy
theorem Rot.s4 (h : Rot l t p m q) (hm : p ≤ m) (hq : m ≤ q) (hs : SortedOn lt l m b) : SortedOn lt t q b := by
  intro i j x y e1 e2 e3 hx hy
  rw [h.out i (by omega)] at hx
  rw [h.out j (by omega)] at hy
  exact hs i j x y (by omega) e2 e3 hx hy
theorem Swo.irr (hs : Swo lt) (x : α) : lt x x = false := by
  cases e : lt x x with
  | false => rfl
  | true => rw [hs.asym x x e] at e; cases e
theorem sorted_le (hs : Swo lt) {l : List α} {a b i j : Nat} {x y : α} (h : SortedOn lt l a b) (h1 : a ≤ i) (h2 : i ≤ j) (h3 : j < b) (hx : l[i]? = some x) (hy : l[j]? = some y) : lt y x = false := by
  by_cases e : i = j
  · subst e
    rw [hx] at hy; injection hy with hy; subst hy
    exact hs.irr x
  · exact h i j x y h1 (by omega) h3 hx hy
/-- Every element before the border is at most every element behind it. -/
theorem rot_cross (hs : Swo lt) (h : Rot l t p m q) (h1 : a ≤ p) (h2 : p ≤ m) (h3 : m ≤ q) (h4 : q ≤ b) (s1 : SortedOn lt l a m) (s2 : SortedOn lt l m b)
    (c1 : p = a ∨ q = b ∨ ∃ x y, l[p - 1]? = some x ∧ l[q]? = some y ∧ lt y x = false)
    (c2 : p = m ∨ q = m ∨ ∃ x y, l[q - 1]? = some x ∧ l[p]? = some y ∧ lt x y = true) : CrossOn lt t a (p + (q - m)) (p + (q - m)) b := by
  have k1 : CrossOn lt l a p q b := by
    intro i j u v e1 e2 e3 e4 hu hv
    rcases c1 with c | c | ⟨x, y, hx, hy, hl⟩
    · omega
    · omega
    · exact hs.ntr u x v (sorted_le hs s1 e1 (show i ≤ p - 1 by omega) (by omega) hu hx) (hs.ntr x y v hl (sorted_le hs s2 h3 e3 e4 hy hv))
  have k2 : CrossOn lt l m q p m := by
    intro i j u v e1 e2 e3 e4 hu hv
    rcases c2 with c | c | ⟨x, y, hx, hy, hl⟩
    · omega
    · omega
    · exact hs.ntr u x v (sorted_le hs s2 e1 (show i ≤ q - 1 by omega) (by omega) hu hx) (hs.ntr x y v (hs.asym x y hl) (sorted_le hs s1 h1 e3 e4 hy hv))
  intro i j u v e1 e2 e3 e4 hu hv
  by_cases f : i < p
  · rw [h.out i (by omega)] at hu
    by_cases g : j < q
    · rw [h.at2 h2 h3 (by omega) g] at hv
      exact s1 i _ u v e1 (by omega) (by omega) hu hv
    · rw [h.out j (by omega)] at hv
      exact k1 i j u v e1 f (by omega) e4 hu hv
  · rw [h.at1 (by omega) e2] at hu
    by_cases g : j < q
    · rw [h.at2 h2 h3 (by omega) g] at hv
      exact k2 _ _ u v (by omega) (by omega) (by omega) (by omega) hu hv
    · rw [h.out j (by omega)] at hv
      exact s2 _ j u v (by omega) (by omega) e4 hu hv
end
end
end Go.M

set_option linter.unusedVariables false
set_option linter.unusedSimpArgs false
set_option linter.unusedSectionVars false
namespace Go.M
open Go.AV
section
variable {α : Type} [Inhabited α] {lt : α → α → Bool}
/-- Blocks of length s from a on, each sorted; the last one may be cut by n. -/
def BlkFrom (lt : α → α → Bool) (l : List α) (s a n : Nat) : Prop := ∀ x, s ∣ x → a ≤ x → SortedOn lt l x (min (x + s) n)
/-- Whole blocks of length s up to a, each sorted. -/
def BlkTo (lt : α → α → Bool) (l : List α) (s a : Nat) : Prop := ∀ x, s ∣ x → x + s ≤ a → SortedOn lt l x (x + s)
theorem blkTo_zero (l : List α) {s : Nat} (hs : 0 < s) : BlkTo lt l s 0 := fun x _ h => by omega
theorem dvd_next {s a x : Nat} (hs : 0 < s) (ha : s ∣ a) (hx : s ∣ x) (h : a < x) : a + s ≤ x := by
  obtain ⟨i, rfl⟩ := ha
  obtain ⟨j, rfl⟩ := hx
  have h1 : i < j := Nat.lt_of_mul_lt_mul_left h
  have h2 : s * (i + 1) ≤ s * j := Nat.mul_le_mul_left s h1
  rw [Nat.mul_add, Nat.mul_one] at h2
  exact h2
theorem blkTo_step {l l' : List α} {s a : Nat} (hs : 0 < s) (ha : s ∣ a) (h : BlkTo lt l s a) (k : Shuf l l' a (a + s)) (hl : SortedOn lt l' a (a + s)) : BlkTo lt l' s (a + s) := by
  intro x hx hxa
  by_cases e : x = a
  · subst e; exact hl
  · have h1 : x + s ≤ a := by
      by_cases f : x < a
      · exact dvd_next hs hx ha f
      · have := dvd_next hs ha hx (by omega); omega
    exact k.sorted_out (.inl h1) (h x hx h1)
theorem blkFrom_step {l l' : List α} {s a b n : Nat} (h : BlkFrom lt l s a n) (hab : a ≤ b) (k : Shuf l l' a b) : BlkFrom lt l' s b n :=
  fun x hx hxb => k.sorted_out (.inr hxb) (h x hx (by omega))
/-- Whole blocks up to a and a last one [a, n): every block is sorted. -/
theorem blk_all {l : List α} {s a n : Nat} (hs : 0 < s) (ha : s ∣ a) (h : BlkTo lt l s a) (hl : SortedOn lt l a n) (hn : n < a + s) : BlkFrom lt l s 0 n := by
  intro x hx _
  by_cases e : x = a
  · subst e
    rw [Nat.min_eq_right (by omega)]; exact hl
  · by_cases f : x < a
    · have h1 := dvd_next hs hx ha f
      exact sorted_sub (h x hx h1) (Nat.le_refl _) (Nat.min_le_left _ _)
    · have h1 := dvd_next hs ha hx (by omega)
      intro i j u v e1 e2 e3
      have := Nat.min_le_right (x + s) n
      omega
theorem blk_done {l : List α} {s n : Nat} (h : BlkFrom lt l s 0 n) (hn : n ≤ s) : SortedOn lt l 0 n := by
  have h1 := h 0 (Nat.dvd_zero s) (Nat.le_refl _)
  rw [Nat.zero_add, Nat.min_eq_right hn] at h1
  exact h1
end
end Go.M

set_option linter.unusedVariables false
set_option linter.unusedSimpArgs false
set_option linter.unusedSectionVars false
namespace Go.M
open Go.AV
section
variable {α : Type} [Inhabited α] {lt : α → α → Bool}
def upR (l : List α) (a : Nat) : Nat → List α
  | 0 => l
  | n + 1 => swp (upR l a n) (a + n) (a + n + 1)
def downR (l : List α) (m : Nat) : Nat → List α
  | 0 => l
  | n + 1 => swp (downR l m n) (m - n) (m - n - 1)
theorem upR_len (l : List α) (a : Nat) : ∀ n, (upR l a n).length = l.length
  | 0 => rfl
  | n + 1 => by show (swp _ _ _).length = _; rw [swp_len, upR_len l a n]
theorem downR_len (l : List α) (m : Nat) : ∀ n, (downR l m n).length = l.length
  | 0 => rfl
  | n + 1 => by show (swp _ _ _).length = _; rw [swp_len, downR_len l m n]
theorem upR_get {l : List α} {a : Nat} : ∀ {n : Nat}, a + n < l.length → ∀ k, (upR l a n)[k]? = if a ≤ k ∧ k < a + n then l[k + 1]? else if k = a + n then l[a]? else l[k]?
  | 0, _, k => by
    rw [if_neg (by omega)]
    by_cases e : k = a + 0
    · rw [if_pos e, e]; rfl
    · rw [if_neg e]; rfl
  | n + 1, h, k => by
    show (swp (upR l a n) (a + n) (a + n + 1))[k]? = _
    have hl := upR_len l a n
    rw [swp_get (by omega) (by omega), upR_get (by omega) (a + n), upR_get (by omega) (a + n + 1), upR_get (by omega) k]
    rw [if_neg (show ¬(a ≤ a + n ∧ a + n < a + n) by omega), if_pos (show a + n = a + n from rfl), if_neg (show ¬(a ≤ a + n + 1 ∧ a + n + 1 < a + n) by omega), if_neg (show ¬(a + n + 1 = a + n) by omega)]
    by_cases e1 : k = a + n + 1
    · rw [if_pos e1, if_neg (by omega), if_pos (by omega)]
    · rw [if_neg e1]
      by_cases e2 : k = a + n
      · rw [if_pos e2, if_pos (by omega), e2]
      · rw [if_neg e2]
        by_cases e3 : a ≤ k ∧ k < a + n
        · rw [if_pos e3, if_pos (by omega)]
        · rw [if_neg e3, if_neg e2, if_neg (by omega), if_neg (by omega)]
theorem downR_get {l : List α} {m : Nat} (hm : m < l.length) : ∀ {n : Nat}, n ≤ m → ∀ k, (downR l m n)[k]? = if k = m - n then l[m]? else if m - n < k ∧ k ≤ m then l[k - 1]? else l[k]?
  | 0, _, k => by
    by_cases e : k = m - 0
    · rw [if_pos e, e]; rfl
    · rw [if_neg e, if_neg (by omega)]; rfl
  | n + 1, h, k => by
    show (swp (downR l m n) (m - n) (m - n - 1))[k]? = _
    have hl := downR_len l m n
    rw [swp_get (by omega) (by omega), downR_get hm (by omega) (m - n), downR_get hm (by omega) (m - n - 1), downR_get hm (by omega) k]
    rw [if_pos (show m - n = m - n from rfl), if_neg (show ¬(m - n - 1 = m - n) by omega), if_neg (show ¬(m - n < m - n - 1 ∧ m - n - 1 ≤ m) by omega)]
    by_cases e1 : k = m - n - 1
    · rw [if_pos e1, if_pos (by omega)]
    · rw [if_neg e1, if_neg (show ¬(k = m - (n + 1)) by omega)]
      by_cases e2 : k = m - n
      · rw [if_pos e2, if_pos (by omega), e2]
      · rw [if_neg e2, if_neg e2]
        by_cases e3 : m - n < k ∧ k ≤ m
        · rw [if_pos e3, if_pos (by omega)]
        · rw [if_neg e3, if_neg (by omega)]
theorem shuf_upR {l : List α} {a lo hi : Nat} : ∀ {n : Nat}, a + n < l.length → lo ≤ a → a + n < hi → Shuf l (upR l a n) lo hi
  | 0, _, _, _ => Shuf.refl l lo hi
  | n + 1, h1, h2, h3 => by
    have hl := upR_len l a n
    exact (shuf_upR (by omega) h2 (by omega)).trans (shuf_swp (by omega) (by omega) (by omega) (by omega))
theorem shuf_downR {l : List α} {m lo hi : Nat} (hm : m < l.length) (h3 : m < hi) : ∀ {n : Nat}, n ≤ m → lo ≤ m - n → Shuf l (downR l m n) lo hi
  | 0, _, _ => Shuf.refl l lo hi
  | n + 1, h1, h2 => by
    have hl := downR_len l m n
    exact (shuf_downR hm h3 (by omega) (by omega)).trans (shuf_swp (by omega) (by omega) (by omega) (by omega))
theorem upR_rot {l : List α} {a n : Nat} (h : a + n < l.length) : Rot l (upR l a n) a (a + 1) (a + 1 + n) where
  out k hk := by rw [upR_get h, if_neg (by omega), if_neg (by omega)]
  fst k hk := by
    rw [upR_get h, if_pos (by omega)]
    congr 1; omega
  snd k hk := by
    rw [upR_get h, if_neg (by omega), if_pos (by omega)]
    congr 1; omega
theorem downR_rot {l : List α} {m n : Nat} (hm : m < l.length) (hn : n ≤ m) : Rot l (downR l m n) (m - n) m (m + 1) where
  out k hk := by rw [downR_get hm hn, if_neg (by omega), if_neg (by omega)]
  fst k hk := by
    rw [downR_get hm hn, if_pos (by omega)]
    congr 1; omega
  snd k hk := by
    rw [downR_get hm hn, if_neg (by omega), if_pos (by omega)]
    congr 1; omega
theorem sorted_up (hs : Swo lt) {l : List α} {a q b : Nat} (h1 : a < q) (h2 : q ≤ b) (h3 : b ≤ l.length) (s2 : SortedOn lt l (a + 1) b)
    (c1 : q = b ∨ ∃ x y, l[a]? = some x ∧ l[q]? = some y ∧ lt y x = false)
    (c2 : q = a + 1 ∨ ∃ x y, l[q - 1]? = some x ∧ l[a]? = some y ∧ lt x y = true) : SortedOn lt (upR l a (q - (a + 1))) a b := by
  have hr : Rot l (upR l a (q - (a + 1))) a (a + 1) q := by
    have h9 := upR_rot (l := l) (a := a) (n := q - (a + 1)) (by omega)
    rw [show a + 1 + (q - (a + 1)) = q by omega] at h9
    exact h9
  refine sorted_glue (c := a + (q - (a + 1))) (hr.s2 (by omega) (by omega) h2 s2) ?_ (rot_cross hs hr (Nat.le_refl _) (by omega) (by omega) h2 (sorted_one l a) s2 (.inl rfl) (c2.elim (fun e => .inr (.inl e)) fun e => .inr (.inr e)))
  refine sorted_glue (c := q) (hr.s3 (Nat.le_refl _) (by omega) (by omega) (sorted_one l a)) (hr.s4 (by omega) (by omega) s2) ?_
  intro i j u v e1 e2 e3 e4 hu hv
  rw [hr.at2 (by omega) (by omega) e1 e2, show a + (i - (a + (q - (a + 1)))) = a by omega] at hu
  rw [hr.out j (by omega)] at hv
  rcases c1 with c | ⟨x, y, hx, hy, hl⟩
  · omega
  · rw [hu] at hx; injection hx with hx; subst hx
    exact hs.ntr u y v hl (sorted_le hs s2 (by omega) e3 e4 hy hv)
theorem sorted_down (hs : Swo lt) {l : List α} {a p m : Nat} (h1 : a ≤ p) (h2 : p ≤ m) (h3 : m < l.length) (s1 : SortedOn lt l a m)
    (c1 : p = a ∨ ∃ x y, l[p - 1]? = some x ∧ l[m]? = some y ∧ lt y x = false)
    (c2 : p = m ∨ ∃ x y, l[m]? = some x ∧ l[p]? = some y ∧ lt x y = true) : SortedOn lt (downR l m (m - p)) a (m + 1) := by
  have hr : Rot l (downR l m (m - p)) p m (m + 1) := by
    have h9 := downR_rot (l := l) (m := m) (n := m - p) h3 (by omega)
    rw [show m - (m - p) = p by omega] at h9
    exact h9
  have s2 := sorted_one (lt := lt) l m
  refine sorted_glue (c := p + (m + 1 - m)) ?_ (hr.s3 h1 h2 (by omega) s1) (rot_cross hs hr h1 h2 (by omega) (Nat.le_refl _) s1 s2 (.inr (.inl rfl)) (c2.elim .inl fun e => .inr (.inr e)))
  refine sorted_glue (c := p) (hr.s1 h2 (by omega) s1) (hr.s2 h2 (by omega) (Nat.le_refl _) s2) ?_
  intro i j u v e1 e2 e3 e4 hu hv
  rw [hr.out i (by omega)] at hu
  rw [hr.at1 e3 e4, show m + (j - p) = m by omega] at hv
  rcases c1 with c | ⟨x, y, hx, hy, hl⟩
  · omega
  · rw [hv] at hy; injection hy with hy; subst hy
    exact hs.ntr u x v (sorted_le hs s1 e1 (show i ≤ p - 1 by omega) (by omega) hu hx) hl
end
end Go.M

set_option linter.unusedVariables false
set_option linter.unusedSimpArgs false
set_option maxRecDepth 100000
set_option maxHeartbeats 1000000
namespace Go.Proofs.Ytcglmbinmfkafaa
open Go Go.AV Go.M
attribute [local irreducible] OpW OpA OpS AWP FSpec ESpec GSpec OpE RetOk RetOkG RvDen Le Ev GuardIs SrcIs Int.tmod Int.tdiv IntKind.wrap
theorem swapRange_own (v : Value) (l : List TFeedItem) (a b n : Nat) (g : AV) (ha : a + n ≤ l.length) (hb : b + n ≤ l.length) (hl : l.length ≤ 1048576) : GSpec Try.prog 66 [AV.is v, AV.int a, AV.int b, AV.int n, g] [.arr v 43 5 (l.map TFeedItem.cs)] (fun _ : Unit => True) (fun _ => [.arr v 43 5 ((swpR l a b n).map TFeedItem.cs)]) (fun _ => AV.tup []) := by
  refine gspec_of_awp Try.func66 rfl Try.ntmps66 rfl ?_
  refine awp_seq ?_
  refine awp_region ?_
  refine sq_plain rfl rfl rfl (w_assign rfl ev_ci) ?_
  refine sq_nil ?_
  refine awp_block ?_
  refine awp_loop_i [(0, _), (1, _), (2, _), (3, _)] _ (fun (i : Nat) => i ≤ n) (fun (i : Nat) => [.arr v 43 5 ((swpR l a b i).map TFeedItem.cs)]) (fun (i : Nat) => [(10, AV.int i)]) (fun (i : Nat) => n - i) (0) ?_ (le_eq (by rfl) ⟨rfl, rfl, rfl, rfl, rfl, trivial⟩) ?_
  · exact Nat.zero_le _
  intro i hinv
  have hsl := swpR_len l a b i
  refine awp_seq ?_
  refine awp_seq ?_
  refine awp_region ?_
  refine sq_plain rfl rfl rfl (w_move rfl (ev_tmp rfl)) ?_
  refine sq_plain rfl rfl rfl (w_move rfl (ev_tmp rfl)) ?_
  refine sq_plain rfl rfl rfl (w_lss rfl (ev_tmp rfl) (ev_tmp rfl)) ?_
  refine sq_nil ?_
  refine awp_cond (ev_tmp rfl) ?_ ?_
  · intro h13
    have k13 := of_decide_eq_true h13; try simp only [List.length_map] at k13
    obtain ⟨x, hx⟩ := get_some (show a + i < (swpR l a b i).length by omega)
    obtain ⟨y, hy⟩ := get_some (show b + i < (swpR l a b i).length by omega)
    refine awp_skip ?_
    refine awp_seq ?_
    refine awp_block ?_
    refine awp_region_tree [] 23 (.pure 0 (.pure 1 (.pure 2 (.pure 3 (.pure 4 (.pure 5 (.pure 6 (.pure 7 (.pure 8 (.pure 9 (.pure 10 (.pure 11 (.pure 14 (.pure 15 (.pure 16 (.pure 17 (.e2 12 (.e2 13 (.e1 18 (.e1 19 (.e1 20 (.e1 21 (.e1 22 .nil))))) 18 (.e2 13 (.e1 19 (.e1 20 (.e1 21 (.e1 22 .nil)))) 19 (.e1 13 (.e1 20 (.e1 21 (.e1 22 .nil)))))) 18 (.e2 12 (.e2 13 (.e1 19 (.e1 20 (.e1 21 (.e1 22 .nil)))) 19 (.e1 13 (.e1 20 (.e1 21 (.e1 22 .nil))))) 19 (.e1 12 (.e1 13 (.e1 20 (.e1 21 (.e1 22 .nil))))))))))))))))))))))) (by kernel_rfl) (by kernel_rfl) rfl invx_all ?_
    refine bt_plain rfl rfl rfl (fun ext => w_move rfl (ev_tmp rfl)) ?_
    refine bt_plain rfl rfl rfl (fun ext => w_move rfl (ev_tmp rfl)) ?_
    refine bt_plain rfl rfl rfl (fun ext => w_move rfl (ev_tmp rfl)) ?_
    refine bt_plain rfl rfl rfl (fun ext => w_addi rfl (ev_tmp rfl) (ev_tmp rfl) (by first | omega | ((try simp only [List.length_map, List.length_take, List.length_cons, List.length_nil, chunks_len, szR] at *); omega) | (have hc2 := hc; simp only [Bool.and_eq_true, Bool.or_eq_true, Bool.or_eq_false_iff, Bool.and_eq_false_iff, Bool.not_eq_true', Bool.not_eq_false', decide_eq_true_eq, decide_eq_false_iff_not, beq_iff_eq, bne_iff_ne, List.length_map, List.length_take] at hc2; omega))) ?_
    refine bt_plain rfl rfl rfl (fun ext => w_move rfl (ev_tmp rfl)) ?_
    refine bt_plain rfl rfl rfl (fun ext => w_move rfl (ev_tmp rfl)) ?_
    refine bt_plain rfl rfl rfl (fun ext => w_move rfl (ev_tmp rfl)) ?_
    refine bt_plain rfl rfl rfl (fun ext => w_addi rfl (ev_tmp rfl) (ev_tmp rfl) (by first | omega | ((try simp only [List.length_map, List.length_take, List.length_cons, List.length_nil, chunks_len, szR] at *); omega) | (have hc2 := hc; simp only [Bool.and_eq_true, Bool.or_eq_true, Bool.or_eq_false_iff, Bool.and_eq_false_iff, Bool.not_eq_true', Bool.not_eq_false', decide_eq_true_eq, decide_eq_false_iff_not, beq_iff_eq, bne_iff_ne, List.length_map, List.length_take] at hc2; omega))) ?_
    refine bt_plain rfl rfl rfl (fun ext => w_move rfl (ev_tmp rfl)) ?_
    refine bt_plain rfl rfl rfl (fun ext => w_move rfl (ev_tmp rfl)) ?_
    refine bt_plain rfl rfl rfl (fun ext => w_move rfl (ev_tmp rfl)) ?_
    refine bt_plain rfl rfl rfl (fun ext => w_addi rfl (ev_tmp rfl) (ev_tmp rfl) (by first | omega | ((try simp only [List.length_map, List.length_take, List.length_cons, List.length_nil, chunks_len, szR] at *); omega) | (have hc2 := hc; simp only [Bool.and_eq_true, Bool.or_eq_true, Bool.or_eq_false_iff, Bool.and_eq_false_iff, Bool.not_eq_true', Bool.not_eq_false', decide_eq_true_eq, decide_eq_false_iff_not, beq_iff_eq, bne_iff_ne, List.length_map, List.length_take] at hc2; omega))) ?_
    refine bt_plain rfl rfl rfl (fun ext => w_move rfl (ev_tmp rfl)) ?_
    refine bt_plain rfl rfl rfl (fun ext => w_move rfl (ev_tmp rfl)) ?_
    refine bt_plain rfl rfl rfl (fun ext => w_move rfl (ev_tmp rfl)) ?_
    refine bt_plain rfl rfl rfl (fun ext => w_addi rfl (ev_tmp rfl) (ev_tmp rfl) (by first | omega | ((try simp only [List.length_map, List.length_take, List.length_cons, List.length_nil, chunks_len, szR] at *); omega) | (have hc2 := hc; simp only [Bool.and_eq_true, Bool.or_eq_true, Bool.or_eq_false_iff, Bool.and_eq_false_iff, Bool.not_eq_true', Bool.not_eq_false', decide_eq_true_eq, decide_eq_false_iff_not, beq_iff_eq, bne_iff_ne, List.length_map, List.length_take] at hc2; omega))) ?_
    refine bt_e2 ?_ ?_
    · refine eff_s rfl rfl rfl (opE_pure (w_aidx 0 rfl Try.underlying24 Try.sizeOf43 (ev_tmp rfl) rfl (ev_tmp rfl) (by first | omega | ((try simp only [List.length_map, List.length_take, List.length_cons, List.length_nil, chunks_len, szR] at *); omega) | (have hc2 := hc; simp only [Bool.and_eq_true, Bool.or_eq_true, Bool.or_eq_false_iff, Bool.and_eq_false_iff, Bool.not_eq_true', Bool.not_eq_false', decide_eq_true_eq, decide_eq_false_iff_not, beq_iff_eq, bne_iff_ne, List.length_map, List.length_take] at hc2; omega)) (by first | omega | ((try simp only [List.length_map, List.length_take, List.length_cons, List.length_nil, chunks_len, szR] at *); omega) | (have hc2 := hc; simp only [Bool.and_eq_true, Bool.or_eq_true, Bool.or_eq_false_iff, Bool.and_eq_false_iff, Bool.not_eq_true', Bool.not_eq_false', decide_eq_true_eq, decide_eq_false_iff_not, beq_iff_eq, bne_iff_ne, List.length_map, List.length_take] at hc2; omega)))) (fun a _ => (by first | exact invx_mk rfl | exact invx_mk (List.append_assoc _ _ _) | exact invx_all)) ?_
      intro _ _
      refine bt_e2 ?_ ?_
      · refine eff_s rfl rfl rfl (opE_pure (w_loadX 0 rfl (ev_tmp rfl) rfl Try.isAgg43 Try.sizeOf43 (by rw [show ((b : Int) + (i : Int)).toNat = b + i by omega, List.getElem?_map, hy]; rfl) (by decide))) (fun a _ => (by first | exact invx_mk rfl | exact invx_mk (List.append_assoc _ _ _) | exact invx_all)) ?_
        intro _ _
        refine bt_e1 ?_
        refine eff_s rfl rfl rfl (opE_pure (w_aidx 0 rfl Try.underlying24 Try.sizeOf43 (ev_tmp rfl) rfl (ev_tmp rfl) (by first | omega | ((try simp only [List.length_map, List.length_take, List.length_cons, List.length_nil, chunks_len, szR] at *); omega) | (have hc2 := hc; simp only [Bool.and_eq_true, Bool.or_eq_true, Bool.or_eq_false_iff, Bool.and_eq_false_iff, Bool.not_eq_true', Bool.not_eq_false', decide_eq_true_eq, decide_eq_false_iff_not, beq_iff_eq, bne_iff_ne, List.length_map, List.length_take] at hc2; omega)) (by first | omega | ((try simp only [List.length_map, List.length_take, List.length_cons, List.length_nil, chunks_len, szR] at *); omega) | (have hc2 := hc; simp only [Bool.and_eq_true, Bool.or_eq_true, Bool.or_eq_false_iff, Bool.and_eq_false_iff, Bool.not_eq_true', Bool.not_eq_false', decide_eq_true_eq, decide_eq_false_iff_not, beq_iff_eq, bne_iff_ne, List.length_map, List.length_take] at hc2; omega)))) (fun a _ => (by first | exact invx_mk rfl | exact invx_mk (List.append_assoc _ _ _) | exact invx_all)) ?_
        intro _ _
        refine bt_e1 ?_
        refine eff_s rfl rfl rfl (opE_pure (w_loadX 0 rfl (ev_tmp rfl) rfl Try.isAgg43 Try.sizeOf43 (by rw [show ((a : Int) + (i : Int)).toNat = a + i by omega, List.getElem?_map, hx]; rfl) (by decide))) (fun a _ => (by first | exact invx_mk rfl | exact invx_mk (List.append_assoc _ _ _) | exact invx_all)) ?_
        intro _ _
        refine bt_e1 ?_
        refine eff_s rfl rfl rfl (opE_pure (w_aidx 0 rfl Try.underlying24 Try.sizeOf43 (ev_tmp rfl) rfl (ev_tmp rfl) (by first | omega | ((try simp only [List.length_map, List.length_take, List.length_cons, List.length_nil, chunks_len, szR] at *); omega) | (have hc2 := hc; simp only [Bool.and_eq_true, Bool.or_eq_true, Bool.or_eq_false_iff, Bool.and_eq_false_iff, Bool.not_eq_true', Bool.not_eq_false', decide_eq_true_eq, decide_eq_false_iff_not, beq_iff_eq, bne_iff_ne, List.length_map, List.length_take] at hc2; omega)) (by first | omega | ((try simp only [List.length_map, List.length_take, List.length_cons, List.length_nil, chunks_len, szR] at *); omega) | (have hc2 := hc; simp only [Bool.and_eq_true, Bool.or_eq_true, Bool.or_eq_false_iff, Bool.and_eq_false_iff, Bool.not_eq_true', Bool.not_eq_false', decide_eq_true_eq, decide_eq_false_iff_not, beq_iff_eq, bne_iff_ne, List.length_map, List.length_take] at hc2; omega)))) (fun a _ => (by first | exact invx_mk rfl | exact invx_mk (List.append_assoc _ _ _) | exact invx_all)) ?_
        intro _ _
        refine bt_e1 ?_
        refine eff_s0 rfl rfl rfl (opE_storeA 0 rfl rfl (ev_tmp rfl) (ev_tmp rfl) (as_agg _) rfl Try.sizeOf43 rfl (by first | omega | ((try simp only [List.length_map, List.length_take, List.length_cons, List.length_nil, chunks_len, szR] at *); omega) | (have hc2 := hc; simp only [Bool.and_eq_true, Bool.or_eq_true, Bool.or_eq_false_iff, Bool.and_eq_false_iff, Bool.not_eq_true', Bool.not_eq_false', decide_eq_true_eq, decide_eq_false_iff_not, beq_iff_eq, bne_iff_ne, List.length_map, List.length_take] at hc2; omega))) (fun a _ => (by first | exact invx_mk rfl | exact invx_mk (List.append_assoc _ _ _) | exact invx_all)) ?_
        intro _ _
        refine bt_e1 ?_
        refine eff_s rfl rfl rfl (opE_pure (w_aidx 0 rfl Try.underlying24 Try.sizeOf43 (ev_tmp rfl) rfl (ev_tmp rfl) (by omega) (by rw [List.length_set, List.length_map]; omega))) (fun a _ => (by first | exact invx_mk rfl | exact invx_mk (List.append_assoc _ _ _) | exact invx_all)) ?_
        intro _ _
        refine bt_nil ?_
        refine sq_storeA 0 rfl rfl rfl (ev_tmp rfl) (ev_tmp rfl) (as_agg _) rfl Try.sizeOf43 rfl (by simp only [List.length_set, List.length_map]; omega) ?_
        refine sq_nil ?_
        refine awp_region ?_
        refine sq_plain rfl rfl rfl (w_move rfl (ev_tmp rfl)) ?_
        refine sq_plain rfl rfl rfl (w_addi rfl (ev_tmp rfl) ev_ci (by first | omega | ((try simp only [List.length_map, List.length_take, List.length_cons, List.length_nil, chunks_len, szR] at *); omega) | (have hc2 := hc; simp only [Bool.and_eq_true, Bool.or_eq_true, Bool.or_eq_false_iff, Bool.and_eq_false_iff, Bool.not_eq_true', Bool.not_eq_false', decide_eq_true_eq, decide_eq_false_iff_not, beq_iff_eq, bne_iff_ne, List.length_map, List.length_take] at hc2; omega))) ?_
        refine sq_plain rfl rfl rfl (w_assign rfl (ev_tmp rfl)) ?_
        refine sq_nil ?_
        refine round_end i (i + 1) ?_ ?_ (le_eq (by (rw [show ((a : Int) + (i : Int)).toNat = a + i by omega, show ((b : Int) + (i : Int)).toNat = b + i by omega]; exact congrArg (fun z => [Own.arr v 43 5 z]) (by rw [← List.map_set, ← List.map_set, swp_eq hx hy]; rfl))) ⟨rfl, rfl, rfl, rfl, rfl, trivial⟩)
        · omega
        · omega
      · refine eff_s rfl rfl rfl (opE_pure (w_aidx 0 rfl Try.underlying24 Try.sizeOf43 (ev_tmp rfl) rfl (ev_tmp rfl) (by first | omega | ((try simp only [List.length_map, List.length_take, List.length_cons, List.length_nil, chunks_len, szR] at *); omega) | (have hc2 := hc; simp only [Bool.and_eq_true, Bool.or_eq_true, Bool.or_eq_false_iff, Bool.and_eq_false_iff, Bool.not_eq_true', Bool.not_eq_false', decide_eq_true_eq, decide_eq_false_iff_not, beq_iff_eq, bne_iff_ne, List.length_map, List.length_take] at hc2; omega)) (by first | omega | ((try simp only [List.length_map, List.length_take, List.length_cons, List.length_nil, chunks_len, szR] at *); omega) | (have hc2 := hc; simp only [Bool.and_eq_true, Bool.or_eq_true, Bool.or_eq_false_iff, Bool.and_eq_false_iff, Bool.not_eq_true', Bool.not_eq_false', decide_eq_true_eq, decide_eq_false_iff_not, beq_iff_eq, bne_iff_ne, List.length_map, List.length_take] at hc2; omega)))) (fun a _ => (by first | exact invx_mk rfl | exact invx_mk (List.append_assoc _ _ _) | exact invx_all)) ?_
        intro _ _
        refine bt_e2 ?_ ?_
        · refine eff_s rfl rfl rfl (opE_pure (w_loadX 0 rfl (ev_tmp rfl) rfl Try.isAgg43 Try.sizeOf43 (by rw [show ((b : Int) + (i : Int)).toNat = b + i by omega, List.getElem?_map, hy]; rfl) (by decide))) (fun a _ => (by first | exact invx_mk rfl | exact invx_mk (List.append_assoc _ _ _) | exact invx_all)) ?_
          intro _ _
          refine bt_e1 ?_
          refine eff_s rfl rfl rfl (opE_pure (w_loadX 0 rfl (ev_tmp rfl) rfl Try.isAgg43 Try.sizeOf43 (by rw [show ((a : Int) + (i : Int)).toNat = a + i by omega, List.getElem?_map, hx]; rfl) (by decide))) (fun a _ => (by first | exact invx_mk rfl | exact invx_mk (List.append_assoc _ _ _) | exact invx_all)) ?_
          intro _ _
          refine bt_e1 ?_
          refine eff_s rfl rfl rfl (opE_pure (w_aidx 0 rfl Try.underlying24 Try.sizeOf43 (ev_tmp rfl) rfl (ev_tmp rfl) (by first | omega | ((try simp only [List.length_map, List.length_take, List.length_cons, List.length_nil, chunks_len, szR] at *); omega) | (have hc2 := hc; simp only [Bool.and_eq_true, Bool.or_eq_true, Bool.or_eq_false_iff, Bool.and_eq_false_iff, Bool.not_eq_true', Bool.not_eq_false', decide_eq_true_eq, decide_eq_false_iff_not, beq_iff_eq, bne_iff_ne, List.length_map, List.length_take] at hc2; omega)) (by first | omega | ((try simp only [List.length_map, List.length_take, List.length_cons, List.length_nil, chunks_len, szR] at *); omega) | (have hc2 := hc; simp only [Bool.and_eq_true, Bool.or_eq_true, Bool.or_eq_false_iff, Bool.and_eq_false_iff, Bool.not_eq_true', Bool.not_eq_false', decide_eq_true_eq, decide_eq_false_iff_not, beq_iff_eq, bne_iff_ne, List.length_map, List.length_take] at hc2; omega)))) (fun a _ => (by first | exact invx_mk rfl | exact invx_mk (List.append_assoc _ _ _) | exact invx_all)) ?_
          intro _ _
          refine bt_e1 ?_
          refine eff_s0 rfl rfl rfl (opE_storeA 0 rfl rfl (ev_tmp rfl) (ev_tmp rfl) (as_agg _) rfl Try.sizeOf43 rfl (by first | omega | ((try simp only [List.length_map, List.length_take, List.length_cons, List.length_nil, chunks_len, szR] at *); omega) | (have hc2 := hc; simp only [Bool.and_eq_true, Bool.or_eq_true, Bool.or_eq_false_iff, Bool.and_eq_false_iff, Bool.not_eq_true', Bool.not_eq_false', decide_eq_true_eq, decide_eq_false_iff_not, beq_iff_eq, bne_iff_ne, List.length_map, List.length_take] at hc2; omega))) (fun a _ => (by first | exact invx_mk rfl | exact invx_mk (List.append_assoc _ _ _) | exact invx_all)) ?_
          intro _ _
          refine bt_e1 ?_
          refine eff_s rfl rfl rfl (opE_pure (w_aidx 0 rfl Try.underlying24 Try.sizeOf43 (ev_tmp rfl) rfl (ev_tmp rfl) (by omega) (by rw [List.length_set, List.length_map]; omega))) (fun a _ => (by first | exact invx_mk rfl | exact invx_mk (List.append_assoc _ _ _) | exact invx_all)) ?_
          intro _ _
          refine bt_nil ?_
          refine sq_storeA 0 rfl rfl rfl (ev_tmp rfl) (ev_tmp rfl) (as_agg _) rfl Try.sizeOf43 rfl (by simp only [List.length_set, List.length_map]; omega) ?_
          refine sq_nil ?_
          refine awp_region ?_
          refine sq_plain rfl rfl rfl (w_move rfl (ev_tmp rfl)) ?_
          refine sq_plain rfl rfl rfl (w_addi rfl (ev_tmp rfl) ev_ci (by first | omega | ((try simp only [List.length_map, List.length_take, List.length_cons, List.length_nil, chunks_len, szR] at *); omega) | (have hc2 := hc; simp only [Bool.and_eq_true, Bool.or_eq_true, Bool.or_eq_false_iff, Bool.and_eq_false_iff, Bool.not_eq_true', Bool.not_eq_false', decide_eq_true_eq, decide_eq_false_iff_not, beq_iff_eq, bne_iff_ne, List.length_map, List.length_take] at hc2; omega))) ?_
          refine sq_plain rfl rfl rfl (w_assign rfl (ev_tmp rfl)) ?_
          refine sq_nil ?_
          refine round_end i (i + 1) ?_ ?_ (le_eq (by (rw [show ((a : Int) + (i : Int)).toNat = a + i by omega, show ((b : Int) + (i : Int)).toNat = b + i by omega]; exact congrArg (fun z => [Own.arr v 43 5 z]) (by rw [← List.map_set, ← List.map_set, swp_eq hx hy]; rfl))) ⟨rfl, rfl, rfl, rfl, rfl, trivial⟩)
          · omega
          · omega
        · refine eff_s rfl rfl rfl (opE_pure (w_loadX 0 rfl (ev_tmp rfl) rfl Try.isAgg43 Try.sizeOf43 (by rw [show ((a : Int) + (i : Int)).toNat = a + i by omega, List.getElem?_map, hx]; rfl) (by decide))) (fun a _ => (by first | exact invx_mk rfl | exact invx_mk (List.append_assoc _ _ _) | exact invx_all)) ?_
          intro _ _
          refine bt_e1 ?_
          refine eff_s rfl rfl rfl (opE_pure (w_loadX 0 rfl (ev_tmp rfl) rfl Try.isAgg43 Try.sizeOf43 (by rw [show ((b : Int) + (i : Int)).toNat = b + i by omega, List.getElem?_map, hy]; rfl) (by decide))) (fun a _ => (by first | exact invx_mk rfl | exact invx_mk (List.append_assoc _ _ _) | exact invx_all)) ?_
          intro _ _
          refine bt_e1 ?_
          refine eff_s rfl rfl rfl (opE_pure (w_aidx 0 rfl Try.underlying24 Try.sizeOf43 (ev_tmp rfl) rfl (ev_tmp rfl) (by first | omega | ((try simp only [List.length_map, List.length_take, List.length_cons, List.length_nil, chunks_len, szR] at *); omega) | (have hc2 := hc; simp only [Bool.and_eq_true, Bool.or_eq_true, Bool.or_eq_false_iff, Bool.and_eq_false_iff, Bool.not_eq_true', Bool.not_eq_false', decide_eq_true_eq, decide_eq_false_iff_not, beq_iff_eq, bne_iff_ne, List.length_map, List.length_take] at hc2; omega)) (by first | omega | ((try simp only [List.length_map, List.length_take, List.length_cons, List.length_nil, chunks_len, szR] at *); omega) | (have hc2 := hc; simp only [Bool.and_eq_true, Bool.or_eq_true, Bool.or_eq_false_iff, Bool.and_eq_false_iff, Bool.not_eq_true', Bool.not_eq_false', decide_eq_true_eq, decide_eq_false_iff_not, beq_iff_eq, bne_iff_ne, List.length_map, List.length_take] at hc2; omega)))) (fun a _ => (by first | exact invx_mk rfl | exact invx_mk (List.append_assoc _ _ _) | exact invx_all)) ?_
          intro _ _
          refine bt_e1 ?_
          refine eff_s0 rfl rfl rfl (opE_storeA 0 rfl rfl (ev_tmp rfl) (ev_tmp rfl) (as_agg _) rfl Try.sizeOf43 rfl (by first | omega | ((try simp only [List.length_map, List.length_take, List.length_cons, List.length_nil, chunks_len, szR] at *); omega) | (have hc2 := hc; simp only [Bool.and_eq_true, Bool.or_eq_true, Bool.or_eq_false_iff, Bool.and_eq_false_iff, Bool.not_eq_true', Bool.not_eq_false', decide_eq_true_eq, decide_eq_false_iff_not, beq_iff_eq, bne_iff_ne, List.length_map, List.length_take] at hc2; omega))) (fun a _ => (by first | exact invx_mk rfl | exact invx_mk (List.append_assoc _ _ _) | exact invx_all)) ?_
          intro _ _
          refine bt_e1 ?_
          refine eff_s rfl rfl rfl (opE_pure (w_aidx 0 rfl Try.underlying24 Try.sizeOf43 (ev_tmp rfl) rfl (ev_tmp rfl) (by omega) (by rw [List.length_set, List.length_map]; omega))) (fun a _ => (by first | exact invx_mk rfl | exact invx_mk (List.append_assoc _ _ _) | exact invx_all)) ?_
          intro _ _
          refine bt_nil ?_
          refine sq_storeA 0 rfl rfl rfl (ev_tmp rfl) (ev_tmp rfl) (as_agg _) rfl Try.sizeOf43 rfl (by simp only [List.length_set, List.length_map]; omega) ?_
          refine sq_nil ?_
          refine awp_region ?_
          refine sq_plain rfl rfl rfl (w_move rfl (ev_tmp rfl)) ?_
          refine sq_plain rfl rfl rfl (w_addi rfl (ev_tmp rfl) ev_ci (by first | omega | ((try simp only [List.length_map, List.length_take, List.length_cons, List.length_nil, chunks_len, szR] at *); omega) | (have hc2 := hc; simp only [Bool.and_eq_true, Bool.or_eq_true, Bool.or_eq_false_iff, Bool.and_eq_false_iff, Bool.not_eq_true', Bool.not_eq_false', decide_eq_true_eq, decide_eq_false_iff_not, beq_iff_eq, bne_iff_ne, List.length_map, List.length_take] at hc2; omega))) ?_
          refine sq_plain rfl rfl rfl (w_assign rfl (ev_tmp rfl)) ?_
          refine sq_nil ?_
          refine round_end i (i + 1) ?_ ?_ (le_eq (by (rw [show ((a : Int) + (i : Int)).toNat = a + i by omega, show ((b : Int) + (i : Int)).toNat = b + i by omega]; exact congrArg (fun z => [Own.arr v 43 5 z]) (by rw [← List.map_set, ← List.map_set, swp_eq hx hy]; rfl))) ⟨rfl, rfl, rfl, rfl, rfl, trivial⟩)
          · omega
          · omega
    · refine eff_s rfl rfl rfl (opE_pure (w_aidx 0 rfl Try.underlying24 Try.sizeOf43 (ev_tmp rfl) rfl (ev_tmp rfl) (by first | omega | ((try simp only [List.length_map, List.length_take, List.length_cons, List.length_nil, chunks_len, szR] at *); omega) | (have hc2 := hc; simp only [Bool.and_eq_true, Bool.or_eq_true, Bool.or_eq_false_iff, Bool.and_eq_false_iff, Bool.not_eq_true', Bool.not_eq_false', decide_eq_true_eq, decide_eq_false_iff_not, beq_iff_eq, bne_iff_ne, List.length_map, List.length_take] at hc2; omega)) (by first | omega | ((try simp only [List.length_map, List.length_take, List.length_cons, List.length_nil, chunks_len, szR] at *); omega) | (have hc2 := hc; simp only [Bool.and_eq_true, Bool.or_eq_true, Bool.or_eq_false_iff, Bool.and_eq_false_iff, Bool.not_eq_true', Bool.not_eq_false', decide_eq_true_eq, decide_eq_false_iff_not, beq_iff_eq, bne_iff_ne, List.length_map, List.length_take] at hc2; omega)))) (fun a _ => (by first | exact invx_mk rfl | exact invx_mk (List.append_assoc _ _ _) | exact invx_all)) ?_
      intro _ _
      refine bt_e2 ?_ ?_
      · refine eff_s rfl rfl rfl (opE_pure (w_aidx 0 rfl Try.underlying24 Try.sizeOf43 (ev_tmp rfl) rfl (ev_tmp rfl) (by first | omega | ((try simp only [List.length_map, List.length_take, List.length_cons, List.length_nil, chunks_len, szR] at *); omega) | (have hc2 := hc; simp only [Bool.and_eq_true, Bool.or_eq_true, Bool.or_eq_false_iff, Bool.and_eq_false_iff, Bool.not_eq_true', Bool.not_eq_false', decide_eq_true_eq, decide_eq_false_iff_not, beq_iff_eq, bne_iff_ne, List.length_map, List.length_take] at hc2; omega)) (by first | omega | ((try simp only [List.length_map, List.length_take, List.length_cons, List.length_nil, chunks_len, szR] at *); omega) | (have hc2 := hc; simp only [Bool.and_eq_true, Bool.or_eq_true, Bool.or_eq_false_iff, Bool.and_eq_false_iff, Bool.not_eq_true', Bool.not_eq_false', decide_eq_true_eq, decide_eq_false_iff_not, beq_iff_eq, bne_iff_ne, List.length_map, List.length_take] at hc2; omega)))) (fun a _ => (by first | exact invx_mk rfl | exact invx_mk (List.append_assoc _ _ _) | exact invx_all)) ?_
        intro _ _
        refine bt_e2 ?_ ?_
        · refine eff_s rfl rfl rfl (opE_pure (w_loadX 0 rfl (ev_tmp rfl) rfl Try.isAgg43 Try.sizeOf43 (by rw [show ((b : Int) + (i : Int)).toNat = b + i by omega, List.getElem?_map, hy]; rfl) (by decide))) (fun a _ => (by first | exact invx_mk rfl | exact invx_mk (List.append_assoc _ _ _) | exact invx_all)) ?_
          intro _ _
          refine bt_e1 ?_
          refine eff_s rfl rfl rfl (opE_pure (w_loadX 0 rfl (ev_tmp rfl) rfl Try.isAgg43 Try.sizeOf43 (by rw [show ((a : Int) + (i : Int)).toNat = a + i by omega, List.getElem?_map, hx]; rfl) (by decide))) (fun a _ => (by first | exact invx_mk rfl | exact invx_mk (List.append_assoc _ _ _) | exact invx_all)) ?_
          intro _ _
          refine bt_e1 ?_
          refine eff_s rfl rfl rfl (opE_pure (w_aidx 0 rfl Try.underlying24 Try.sizeOf43 (ev_tmp rfl) rfl (ev_tmp rfl) (by first | omega | ((try simp only [List.length_map, List.length_take, List.length_cons, List.length_nil, chunks_len, szR] at *); omega) | (have hc2 := hc; simp only [Bool.and_eq_true, Bool.or_eq_true, Bool.or_eq_false_iff, Bool.and_eq_false_iff, Bool.not_eq_true', Bool.not_eq_false', decide_eq_true_eq, decide_eq_false_iff_not, beq_iff_eq, bne_iff_ne, List.length_map, List.length_take] at hc2; omega)) (by first | omega | ((try simp only [List.length_map, List.length_take, List.length_cons, List.length_nil, chunks_len, szR] at *); omega) | (have hc2 := hc; simp only [Bool.and_eq_true, Bool.or_eq_true, Bool.or_eq_false_iff, Bool.and_eq_false_iff, Bool.not_eq_true', Bool.not_eq_false', decide_eq_true_eq, decide_eq_false_iff_not, beq_iff_eq, bne_iff_ne, List.length_map, List.length_take] at hc2; omega)))) (fun a _ => (by first | exact invx_mk rfl | exact invx_mk (List.append_assoc _ _ _) | exact invx_all)) ?_
          intro _ _
          refine bt_e1 ?_
          refine eff_s0 rfl rfl rfl (opE_storeA 0 rfl rfl (ev_tmp rfl) (ev_tmp rfl) (as_agg _) rfl Try.sizeOf43 rfl (by first | omega | ((try simp only [List.length_map, List.length_take, List.length_cons, List.length_nil, chunks_len, szR] at *); omega) | (have hc2 := hc; simp only [Bool.and_eq_true, Bool.or_eq_true, Bool.or_eq_false_iff, Bool.and_eq_false_iff, Bool.not_eq_true', Bool.not_eq_false', decide_eq_true_eq, decide_eq_false_iff_not, beq_iff_eq, bne_iff_ne, List.length_map, List.length_take] at hc2; omega))) (fun a _ => (by first | exact invx_mk rfl | exact invx_mk (List.append_assoc _ _ _) | exact invx_all)) ?_
          intro _ _
          refine bt_e1 ?_
          refine eff_s rfl rfl rfl (opE_pure (w_aidx 0 rfl Try.underlying24 Try.sizeOf43 (ev_tmp rfl) rfl (ev_tmp rfl) (by omega) (by rw [List.length_set, List.length_map]; omega))) (fun a _ => (by first | exact invx_mk rfl | exact invx_mk (List.append_assoc _ _ _) | exact invx_all)) ?_
          intro _ _
          refine bt_nil ?_
          refine sq_storeA 0 rfl rfl rfl (ev_tmp rfl) (ev_tmp rfl) (as_agg _) rfl Try.sizeOf43 rfl (by simp only [List.length_set, List.length_map]; omega) ?_
          refine sq_nil ?_
          refine awp_region ?_
          refine sq_plain rfl rfl rfl (w_move rfl (ev_tmp rfl)) ?_
          refine sq_plain rfl rfl rfl (w_addi rfl (ev_tmp rfl) ev_ci (by first | omega | ((try simp only [List.length_map, List.length_take, List.length_cons, List.length_nil, chunks_len, szR] at *); omega) | (have hc2 := hc; simp only [Bool.and_eq_true, Bool.or_eq_true, Bool.or_eq_false_iff, Bool.and_eq_false_iff, Bool.not_eq_true', Bool.not_eq_false', decide_eq_true_eq, decide_eq_false_iff_not, beq_iff_eq, bne_iff_ne, List.length_map, List.length_take] at hc2; omega))) ?_
          refine sq_plain rfl rfl rfl (w_assign rfl (ev_tmp rfl)) ?_
          refine sq_nil ?_
          refine round_end i (i + 1) ?_ ?_ (le_eq (by (rw [show ((a : Int) + (i : Int)).toNat = a + i by omega, show ((b : Int) + (i : Int)).toNat = b + i by omega]; exact congrArg (fun z => [Own.arr v 43 5 z]) (by rw [← List.map_set, ← List.map_set, swp_eq hx hy]; rfl))) ⟨rfl, rfl, rfl, rfl, rfl, trivial⟩)
          · omega
          · omega
        · refine eff_s rfl rfl rfl (opE_pure (w_loadX 0 rfl (ev_tmp rfl) rfl Try.isAgg43 Try.sizeOf43 (by rw [show ((a : Int) + (i : Int)).toNat = a + i by omega, List.getElem?_map, hx]; rfl) (by decide))) (fun a _ => (by first | exact invx_mk rfl | exact invx_mk (List.append_assoc _ _ _) | exact invx_all)) ?_
          intro _ _
          refine bt_e1 ?_
          refine eff_s rfl rfl rfl (opE_pure (w_loadX 0 rfl (ev_tmp rfl) rfl Try.isAgg43 Try.sizeOf43 (by rw [show ((b : Int) + (i : Int)).toNat = b + i by omega, List.getElem?_map, hy]; rfl) (by decide))) (fun a _ => (by first | exact invx_mk rfl | exact invx_mk (List.append_assoc _ _ _) | exact invx_all)) ?_
          intro _ _
          refine bt_e1 ?_
          refine eff_s rfl rfl rfl (opE_pure (w_aidx 0 rfl Try.underlying24 Try.sizeOf43 (ev_tmp rfl) rfl (ev_tmp rfl) (by first | omega | ((try simp only [List.length_map, List.length_take, List.length_cons, List.length_nil, chunks_len, szR] at *); omega) | (have hc2 := hc; simp only [Bool.and_eq_true, Bool.or_eq_true, Bool.or_eq_false_iff, Bool.and_eq_false_iff, Bool.not_eq_true', Bool.not_eq_false', decide_eq_true_eq, decide_eq_false_iff_not, beq_iff_eq, bne_iff_ne, List.length_map, List.length_take] at hc2; omega)) (by first | omega | ((try simp only [List.length_map, List.length_take, List.length_cons, List.length_nil, chunks_len, szR] at *); omega) | (have hc2 := hc; simp only [Bool.and_eq_true, Bool.or_eq_true, Bool.or_eq_false_iff, Bool.and_eq_false_iff, Bool.not_eq_true', Bool.not_eq_false', decide_eq_true_eq, decide_eq_false_iff_not, beq_iff_eq, bne_iff_ne, List.length_map, List.length_take] at hc2; omega)))) (fun a _ => (by first | exact invx_mk rfl | exact invx_mk (List.append_assoc _ _ _) | exact invx_all)) ?_
          intro _ _
          refine bt_e1 ?_
          refine eff_s0 rfl rfl rfl (opE_storeA 0 rfl rfl (ev_tmp rfl) (ev_tmp rfl) (as_agg _) rfl Try.sizeOf43 rfl (by first | omega | ((try simp only [List.length_map, List.length_take, List.length_cons, List.length_nil, chunks_len, szR] at *); omega) | (have hc2 := hc; simp only [Bool.and_eq_true, Bool.or_eq_true, Bool.or_eq_false_iff, Bool.and_eq_false_iff, Bool.not_eq_true', Bool.not_eq_false', decide_eq_true_eq, decide_eq_false_iff_not, beq_iff_eq, bne_iff_ne, List.length_map, List.length_take] at hc2; omega))) (fun a _ => (by first | exact invx_mk rfl | exact invx_mk (List.append_assoc _ _ _) | exact invx_all)) ?_
          intro _ _
          refine bt_e1 ?_
          refine eff_s rfl rfl rfl (opE_pure (w_aidx 0 rfl Try.underlying24 Try.sizeOf43 (ev_tmp rfl) rfl (ev_tmp rfl) (by omega) (by rw [List.length_set, List.length_map]; omega))) (fun a _ => (by first | exact invx_mk rfl | exact invx_mk (List.append_assoc _ _ _) | exact invx_all)) ?_
          intro _ _
          refine bt_nil ?_
          refine sq_storeA 0 rfl rfl rfl (ev_tmp rfl) (ev_tmp rfl) (as_agg _) rfl Try.sizeOf43 rfl (by simp only [List.length_set, List.length_map]; omega) ?_
          refine sq_nil ?_
          refine awp_region ?_
          refine sq_plain rfl rfl rfl (w_move rfl (ev_tmp rfl)) ?_
          refine sq_plain rfl rfl rfl (w_addi rfl (ev_tmp rfl) ev_ci (by first | omega | ((try simp only [List.length_map, List.length_take, List.length_cons, List.length_nil, chunks_len, szR] at *); omega) | (have hc2 := hc; simp only [Bool.and_eq_true, Bool.or_eq_true, Bool.or_eq_false_iff, Bool.and_eq_false_iff, Bool.not_eq_true', Bool.not_eq_false', decide_eq_true_eq, decide_eq_false_iff_not, beq_iff_eq, bne_iff_ne, List.length_map, List.length_take] at hc2; omega))) ?_
          refine sq_plain rfl rfl rfl (w_assign rfl (ev_tmp rfl)) ?_
          refine sq_nil ?_
          refine round_end i (i + 1) ?_ ?_ (le_eq (by (rw [show ((a : Int) + (i : Int)).toNat = a + i by omega, show ((b : Int) + (i : Int)).toNat = b + i by omega]; exact congrArg (fun z => [Own.arr v 43 5 z]) (by rw [← List.map_set, ← List.map_set, swp_eq hx hy]; rfl))) ⟨rfl, rfl, rfl, rfl, rfl, trivial⟩)
          · omega
          · omega
      · refine eff_s rfl rfl rfl (opE_pure (w_loadX 0 rfl (ev_tmp rfl) rfl Try.isAgg43 Try.sizeOf43 (by rw [show ((a : Int) + (i : Int)).toNat = a + i by omega, List.getElem?_map, hx]; rfl) (by decide))) (fun a _ => (by first | exact invx_mk rfl | exact invx_mk (List.append_assoc _ _ _) | exact invx_all)) ?_
        intro _ _
        refine bt_e1 ?_
        refine eff_s rfl rfl rfl (opE_pure (w_aidx 0 rfl Try.underlying24 Try.sizeOf43 (ev_tmp rfl) rfl (ev_tmp rfl) (by first | omega | ((try simp only [List.length_map, List.length_take, List.length_cons, List.length_nil, chunks_len, szR] at *); omega) | (have hc2 := hc; simp only [Bool.and_eq_true, Bool.or_eq_true, Bool.or_eq_false_iff, Bool.and_eq_false_iff, Bool.not_eq_true', Bool.not_eq_false', decide_eq_true_eq, decide_eq_false_iff_not, beq_iff_eq, bne_iff_ne, List.length_map, List.length_take] at hc2; omega)) (by first | omega | ((try simp only [List.length_map, List.length_take, List.length_cons, List.length_nil, chunks_len, szR] at *); omega) | (have hc2 := hc; simp only [Bool.and_eq_true, Bool.or_eq_true, Bool.or_eq_false_iff, Bool.and_eq_false_iff, Bool.not_eq_true', Bool.not_eq_false', decide_eq_true_eq, decide_eq_false_iff_not, beq_iff_eq, bne_iff_ne, List.length_map, List.length_take] at hc2; omega)))) (fun a _ => (by first | exact invx_mk rfl | exact invx_mk (List.append_assoc _ _ _) | exact invx_all)) ?_
        intro _ _
        refine bt_e1 ?_
        refine eff_s rfl rfl rfl (opE_pure (w_loadX 0 rfl (ev_tmp rfl) rfl Try.isAgg43 Try.sizeOf43 (by rw [show ((b : Int) + (i : Int)).toNat = b + i by omega, List.getElem?_map, hy]; rfl) (by decide))) (fun a _ => (by first | exact invx_mk rfl | exact invx_mk (List.append_assoc _ _ _) | exact invx_all)) ?_
        intro _ _
        refine bt_e1 ?_
        refine eff_s rfl rfl rfl (opE_pure (w_aidx 0 rfl Try.underlying24 Try.sizeOf43 (ev_tmp rfl) rfl (ev_tmp rfl) (by first | omega | ((try simp only [List.length_map, List.length_take, List.length_cons, List.length_nil, chunks_len, szR] at *); omega) | (have hc2 := hc; simp only [Bool.and_eq_true, Bool.or_eq_true, Bool.or_eq_false_iff, Bool.and_eq_false_iff, Bool.not_eq_true', Bool.not_eq_false', decide_eq_true_eq, decide_eq_false_iff_not, beq_iff_eq, bne_iff_ne, List.length_map, List.length_take] at hc2; omega)) (by first | omega | ((try simp only [List.length_map, List.length_take, List.length_cons, List.length_nil, chunks_len, szR] at *); omega) | (have hc2 := hc; simp only [Bool.and_eq_true, Bool.or_eq_true, Bool.or_eq_false_iff, Bool.and_eq_false_iff, Bool.not_eq_true', Bool.not_eq_false', decide_eq_true_eq, decide_eq_false_iff_not, beq_iff_eq, bne_iff_ne, List.length_map, List.length_take] at hc2; omega)))) (fun a _ => (by first | exact invx_mk rfl | exact invx_mk (List.append_assoc _ _ _) | exact invx_all)) ?_
        intro _ _
        refine bt_e1 ?_
        refine eff_s0 rfl rfl rfl (opE_storeA 0 rfl rfl (ev_tmp rfl) (ev_tmp rfl) (as_agg _) rfl Try.sizeOf43 rfl (by first | omega | ((try simp only [List.length_map, List.length_take, List.length_cons, List.length_nil, chunks_len, szR] at *); omega) | (have hc2 := hc; simp only [Bool.and_eq_true, Bool.or_eq_true, Bool.or_eq_false_iff, Bool.and_eq_false_iff, Bool.not_eq_true', Bool.not_eq_false', decide_eq_true_eq, decide_eq_false_iff_not, beq_iff_eq, bne_iff_ne, List.length_map, List.length_take] at hc2; omega))) (fun a _ => (by first | exact invx_mk rfl | exact invx_mk (List.append_assoc _ _ _) | exact invx_all)) ?_
        intro _ _
        refine bt_e1 ?_
        refine eff_s rfl rfl rfl (opE_pure (w_aidx 0 rfl Try.underlying24 Try.sizeOf43 (ev_tmp rfl) rfl (ev_tmp rfl) (by omega) (by rw [List.length_set, List.length_map]; omega))) (fun a _ => (by first | exact invx_mk rfl | exact invx_mk (List.append_assoc _ _ _) | exact invx_all)) ?_
        intro _ _
        refine bt_nil ?_
        refine sq_storeA 0 rfl rfl rfl (ev_tmp rfl) (ev_tmp rfl) (as_agg _) rfl Try.sizeOf43 rfl (by simp only [List.length_set, List.length_map]; omega) ?_
        refine sq_nil ?_
        refine awp_region ?_
        refine sq_plain rfl rfl rfl (w_move rfl (ev_tmp rfl)) ?_
        refine sq_plain rfl rfl rfl (w_addi rfl (ev_tmp rfl) ev_ci (by first | omega | ((try simp only [List.length_map, List.length_take, List.length_cons, List.length_nil, chunks_len, szR] at *); omega) | (have hc2 := hc; simp only [Bool.and_eq_true, Bool.or_eq_true, Bool.or_eq_false_iff, Bool.and_eq_false_iff, Bool.not_eq_true', Bool.not_eq_false', decide_eq_true_eq, decide_eq_false_iff_not, beq_iff_eq, bne_iff_ne, List.length_map, List.length_take] at hc2; omega))) ?_
        refine sq_plain rfl rfl rfl (w_assign rfl (ev_tmp rfl)) ?_
        refine sq_nil ?_
        refine round_end i (i + 1) ?_ ?_ (le_eq (by (rw [show ((a : Int) + (i : Int)).toNat = a + i by omega, show ((b : Int) + (i : Int)).toNat = b + i by omega]; exact congrArg (fun z => [Own.arr v 43 5 z]) (by rw [← List.map_set, ← List.map_set, swp_eq hx hy]; rfl))) ⟨rfl, rfl, rfl, rfl, rfl, trivial⟩)
        · omega
        · omega
  · intro h13
    have k13 := of_decide_eq_false h13; try simp only [List.length_map] at k13
    have hin : i = n := by omega
    subst hin
    refine awp_exit ?_
    exact retG [0] (()) (trivial) rfl (by rfl) (resN rfl (by decide) rv_nil)
theorem insertion_own (v : Value) (l : List TFeedItem) (a b : Nat) (f : TFeedItem → TFeedItem → Int) (hs : Swo fun x y => decide (f x y < 0)) (hb : b ≤ l.length) (hl : l.length ≤ 1048576) (ha : a ≤ l.length) :
    GSpec Try.prog 49 [AV.is v, AV.int a, AV.int b, AV.fun2 Try.prog (fun _ _ => True) (fun x : TFeedItem => AV.agg x.cs) (fun y : TFeedItem => AV.agg y.cs) (fun x y => AV.int (f x y))] [.arr v 43 5 (l.map TFeedItem.cs)]
      (fun l' : List TFeedItem => Shuf l l' a b ∧ SortedOn (fun x y => decide (f x y < 0)) l' a b) (fun l' => [.arr v 43 5 (l'.map TFeedItem.cs)]) (fun _ => AV.tup []) := by
  refine gspec_of_awp Try.func49 rfl Try.ntmps49 rfl ?_
  refine awp_seq ?_
  refine awp_region ?_
  refine sq_plain rfl rfl rfl (w_move rfl (ev_tmp rfl)) ?_
  refine sq_plain rfl rfl rfl (w_addi rfl (ev_tmp rfl) ev_ci (by first | omega | ((try simp only [List.length_map, List.length_take, List.length_cons, List.length_nil, chunks_len, szR] at *); omega) | (have hc2 := hc; simp only [Bool.and_eq_true, Bool.or_eq_true, Bool.or_eq_false_iff, Bool.and_eq_false_iff, Bool.not_eq_true', Bool.not_eq_false', decide_eq_true_eq, decide_eq_false_iff_not, beq_iff_eq, bne_iff_ne, List.length_map, List.length_take] at hc2; omega))) ?_
  refine sq_plain rfl rfl rfl (w_assign rfl (ev_tmp rfl)) ?_
  refine sq_nil ?_
  refine awp_block ?_
  refine awp_loop_i2 [(0, _), (1, _), (2, _), (3, _)] _ (fun (i : Nat) (l1 : List TFeedItem) => (Shuf l l1 a b ∧ SortedOn (fun x y => decide (f x y < 0)) l1 a i) ∧ a + 1 ≤ i ∧ (i ≤ b ∨ i = a + 1)) (fun (i : Nat) (l1 : List TFeedItem) => [.arr v 43 5 (l1.map TFeedItem.cs)]) (fun (i : Nat) (l1 : List TFeedItem) => [(8, AV.int i)]) (fun (i : Nat) (l1 : List TFeedItem) => b - i) (a + 1) (l) ?_ (le_eq (by rfl) ⟨rfl, rfl, rfl, rfl, rfl, trivial⟩) ?_
  · exact ⟨⟨Shuf.refl _ _ _, sorted_one _ _⟩, Nat.le_refl _, .inr rfl⟩
  intro i l1 hinv
  have hinv0 := hinv
  obtain ⟨⟨hsh1, hso1⟩, hi1, hi2⟩ := hinv
  have hln1 := hsh1.len
  refine awp_seq ?_
  refine awp_seq ?_
  refine awp_region ?_
  refine sq_plain rfl rfl rfl (w_move rfl (ev_tmp rfl)) ?_
  refine sq_plain rfl rfl rfl (w_move rfl (ev_tmp rfl)) ?_
  refine sq_plain rfl rfl rfl (w_lss rfl (ev_tmp rfl) (ev_tmp rfl)) ?_
  refine sq_nil ?_
  refine awp_cond (ev_tmp rfl) ?_ ?_
  · intro h14
    have k14 := of_decide_eq_true h14; try simp only [List.length_map] at k14
    refine awp_skip ?_
    refine awp_seq ?_
    refine awp_block ?_
    refine awp_seq ?_
    refine awp_region ?_
    refine sq_plain rfl rfl rfl (w_move rfl (ev_tmp rfl)) ?_
    refine sq_plain rfl rfl rfl (w_assign rfl (ev_tmp rfl)) ?_
    refine sq_nil ?_
    refine awp_block ?_
    refine awp_loop_i2 [(0, _), (1, _), (2, _), (3, _), (8, _), (12, _), (13, _), (14, _), (17, _)] _ (fun (j : Nat) (l2 : List TFeedItem) => (Shuf l l2 a b ∧ SinkOn (fun x y => decide (f x y < 0)) l2 a i j) ∧ a ≤ j ∧ j ≤ i) (fun (j : Nat) (l2 : List TFeedItem) => [.arr v 43 5 (l2.map TFeedItem.cs)]) (fun (j : Nat) (l2 : List TFeedItem) => [(9, AV.int j)]) (fun (j : Nat) (l2 : List TFeedItem) => j) (i) (l1) ?_ (le_eq (by rfl) ⟨rfl, rfl, rfl, rfl, rfl, rfl, rfl, rfl, rfl, rfl, trivial⟩) ?_
    · exact ⟨⟨hsh1, sink_start hso1⟩, by omega, Nat.le_refl _⟩
    intro j l2 hinv
    have hln2 := hinv.1.1.len
    obtain ⟨x, hx⟩ := get_some (show j < l2.length by omega)
    obtain ⟨y, hy⟩ := get_any l2 (j - 1)
    refine awp_seq ?_
    refine awp_seq ?_
    refine awp_region_any (by kernel_rfl) (by kernel_rfl) rfl ?_
    refine ch_plain rfl rfl (w_move rfl (ev_tmp rfl)) ?_
    refine ch_plain rfl rfl (w_move rfl (ev_tmp rfl)) ?_
    refine ch_plain rfl rfl (w_gtr rfl (ev_tmp rfl) (ev_tmp rfl)) ?_
    refine ch_plain rfl rfl (w_move rfl (ev_tmp rfl)) ?_
    refine ch_grd rfl (guard_t rfl rfl rfl) (fun hc => w_move rfl (ev_tmp rfl)) ?_
    refine ch_grd rfl (guard_t rfl rfl rfl) (fun hc => w_move rfl (ev_tmp rfl)) ?_
    refine ch_grd rfl (guard_t rfl rfl rfl) (fun hc => w_move rfl (ev_tmp rfl)) ?_
    refine ch_grd rfl (guard_t rfl rfl rfl) (fun hc => w_aidx 0 rfl Try.underlying24 Try.sizeOf43 (ev_whn rfl hc) rfl (ev_whn rfl hc) (by first | omega | ((try simp only [List.length_map, List.length_take, List.length_cons, List.length_nil, chunks_len, szR] at *); omega) | (have hc2 := hc; simp only [Bool.and_eq_true, Bool.or_eq_true, Bool.or_eq_false_iff, Bool.and_eq_false_iff, Bool.not_eq_true', Bool.not_eq_false', decide_eq_true_eq, decide_eq_false_iff_not, beq_iff_eq, bne_iff_ne, List.length_map, List.length_take] at hc2; omega)) (by first | omega | ((try simp only [List.length_map, List.length_take, List.length_cons, List.length_nil, chunks_len, szR] at *); omega) | (have hc2 := hc; simp only [Bool.and_eq_true, Bool.or_eq_true, Bool.or_eq_false_iff, Bool.and_eq_false_iff, Bool.not_eq_true', Bool.not_eq_false', decide_eq_true_eq, decide_eq_false_iff_not, beq_iff_eq, bne_iff_ne, List.length_map, List.length_take] at hc2; omega))) ?_
    refine ch_grd rfl (guard_t rfl rfl rfl) (fun hc => w_loadX 0 rfl (ev_whn rfl hc) rfl Try.isAgg43 Try.sizeOf43 (by rw [Int.toNat_natCast, List.getElem?_map, hx]; rfl) (by decide)) ?_
    refine ch_grd rfl (guard_t rfl rfl rfl) (fun hc => w_move rfl (ev_tmp rfl)) ?_
    refine ch_grd rfl (guard_t rfl rfl rfl) (fun hc => w_move rfl (ev_tmp rfl)) ?_
    refine ch_grd rfl (guard_t rfl rfl rfl) (fun hc => w_subi rfl (ev_whn rfl hc) ev_ci (by first | omega | ((try simp only [List.length_map, List.length_take, List.length_cons, List.length_nil, chunks_len, szR] at *); omega) | (have hc2 := hc; simp only [Bool.and_eq_true, Bool.or_eq_true, Bool.or_eq_false_iff, Bool.and_eq_false_iff, Bool.not_eq_true', Bool.not_eq_false', decide_eq_true_eq, decide_eq_false_iff_not, beq_iff_eq, bne_iff_ne, List.length_map, List.length_take] at hc2; omega))) ?_
    refine ch_grd rfl (guard_t rfl rfl rfl) (fun hc => w_aidx 0 rfl Try.underlying24 Try.sizeOf43 (ev_whn rfl hc) rfl (ev_whn rfl hc) (by first | omega | ((try simp only [List.length_map, List.length_take, List.length_cons, List.length_nil, chunks_len, szR] at *); omega) | (have hc2 := hc; simp only [Bool.and_eq_true, Bool.or_eq_true, Bool.or_eq_false_iff, Bool.and_eq_false_iff, Bool.not_eq_true', Bool.not_eq_false', decide_eq_true_eq, decide_eq_false_iff_not, beq_iff_eq, bne_iff_ne, List.length_map, List.length_take] at hc2; omega)) (by first | omega | ((try simp only [List.length_map, List.length_take, List.length_cons, List.length_nil, chunks_len, szR] at *); omega) | (have hc2 := hc; simp only [Bool.and_eq_true, Bool.or_eq_true, Bool.or_eq_false_iff, Bool.and_eq_false_iff, Bool.not_eq_true', Bool.not_eq_false', decide_eq_true_eq, decide_eq_false_iff_not, beq_iff_eq, bne_iff_ne, List.length_map, List.length_take] at hc2; omega))) ?_
    refine ch_grd rfl (guard_t rfl rfl rfl) (fun hc => w_loadX 0 rfl (ev_whn rfl hc) rfl Try.isAgg43 Try.sizeOf43 (by have hc2 : a < j := (by have h9 := of_decide_eq_true hc; omega); rw [show ((j : Int) - 1).toNat = j - 1 by omega, List.getElem?_map, hy (by omega)]; rfl) (by decide)) ?_
    refine ch_grd rfl (guard_t rfl rfl rfl) (fun hc => w_callv2 rfl (ev_whn rfl hc) x y trivial (ev_whn rfl hc) (ev_whn rfl hc)) ?_
    refine ch_grd rfl (guard_t rfl rfl rfl) (fun hc => w_lss rfl (ev_whn rfl hc) ev_ci) ?_
    refine ch_plain rfl rfl (w_and rfl (ev_tmp rfl) (evif_w rfl)) ?_
    refine ch_nil ?_
    refine awp_cond (ev_tmp rfl) ?_ ?_
    · intro h34
      simp only [Bool.and_eq_true] at h34
      obtain ⟨h34a, hlt⟩ := h34
      have haj := of_decide_eq_true h34a
      refine awp_skip ?_
      refine awp_seq ?_
      refine awp_block ?_
      refine awp_region_tree [] 17 (.pure 0 (.pure 1 (.pure 2 (.pure 3 (.pure 4 (.pure 5 (.pure 6 (.pure 7 (.pure 10 (.pure 11 (.e2 8 (.e2 9 (.e1 12 (.e1 13 (.e1 14 (.e1 15 (.e1 16 .nil))))) 12 (.e2 9 (.e1 13 (.e1 14 (.e1 15 (.e1 16 .nil)))) 13 (.e1 9 (.e1 14 (.e1 15 (.e1 16 .nil)))))) 12 (.e2 8 (.e2 9 (.e1 13 (.e1 14 (.e1 15 (.e1 16 .nil)))) 13 (.e1 9 (.e1 14 (.e1 15 (.e1 16 .nil))))) 13 (.e1 8 (.e1 9 (.e1 14 (.e1 15 (.e1 16 .nil))))))))))))))))) (by kernel_rfl) (by kernel_rfl) rfl invx_all ?_
      refine bt_plain rfl rfl rfl (fun ext => w_move rfl (ev_tmp rfl)) ?_
      refine bt_plain rfl rfl rfl (fun ext => w_move rfl (ev_tmp rfl)) ?_
      refine bt_plain rfl rfl rfl (fun ext => w_move rfl (ev_tmp rfl)) ?_
      refine bt_plain rfl rfl rfl (fun ext => w_move rfl (ev_tmp rfl)) ?_
      refine bt_plain rfl rfl rfl (fun ext => w_subi rfl (ev_tmp rfl) ev_ci (by first | omega | ((try simp only [List.length_map, List.length_take, List.length_cons, List.length_nil, chunks_len, szR] at *); omega) | (have hc2 := hc; simp only [Bool.and_eq_true, Bool.or_eq_true, Bool.or_eq_false_iff, Bool.and_eq_false_iff, Bool.not_eq_true', Bool.not_eq_false', decide_eq_true_eq, decide_eq_false_iff_not, beq_iff_eq, bne_iff_ne, List.length_map, List.length_take] at hc2; omega))) ?_
      refine bt_plain rfl rfl rfl (fun ext => w_move rfl (ev_tmp rfl)) ?_
      refine bt_plain rfl rfl rfl (fun ext => w_move rfl (ev_tmp rfl)) ?_
      refine bt_plain rfl rfl rfl (fun ext => w_subi rfl (ev_tmp rfl) ev_ci (by first | omega | ((try simp only [List.length_map, List.length_take, List.length_cons, List.length_nil, chunks_len, szR] at *); omega) | (have hc2 := hc; simp only [Bool.and_eq_true, Bool.or_eq_true, Bool.or_eq_false_iff, Bool.and_eq_false_iff, Bool.not_eq_true', Bool.not_eq_false', decide_eq_true_eq, decide_eq_false_iff_not, beq_iff_eq, bne_iff_ne, List.length_map, List.length_take] at hc2; omega))) ?_
      refine bt_plain rfl rfl rfl (fun ext => w_move rfl (ev_tmp rfl)) ?_
      refine bt_plain rfl rfl rfl (fun ext => w_move rfl (ev_tmp rfl)) ?_
      refine bt_e2 ?_ ?_
      · refine eff_s rfl rfl rfl (opE_pure (w_aidx 0 rfl Try.underlying24 Try.sizeOf43 (ev_tmp rfl) rfl (ev_tmp rfl) (by first | omega | ((try simp only [List.length_map, List.length_take, List.length_cons, List.length_nil, chunks_len, szR] at *); omega) | (have hc2 := hc; simp only [Bool.and_eq_true, Bool.or_eq_true, Bool.or_eq_false_iff, Bool.and_eq_false_iff, Bool.not_eq_true', Bool.not_eq_false', decide_eq_true_eq, decide_eq_false_iff_not, beq_iff_eq, bne_iff_ne, List.length_map, List.length_take] at hc2; omega)) (by first | omega | ((try simp only [List.length_map, List.length_take, List.length_cons, List.length_nil, chunks_len, szR] at *); omega) | (have hc2 := hc; simp only [Bool.and_eq_true, Bool.or_eq_true, Bool.or_eq_false_iff, Bool.and_eq_false_iff, Bool.not_eq_true', Bool.not_eq_false', decide_eq_true_eq, decide_eq_false_iff_not, beq_iff_eq, bne_iff_ne, List.length_map, List.length_take] at hc2; omega)))) (fun a _ => (by first | exact invx_mk rfl | exact invx_mk (List.append_assoc _ _ _) | exact invx_all)) ?_
        intro _ _
        refine bt_e2 ?_ ?_
        · refine eff_s rfl rfl rfl (opE_pure (w_loadX 0 rfl (ev_tmp rfl) rfl Try.isAgg43 Try.sizeOf43 (by rw [show ((j : Int) - 1).toNat = j - 1 by omega, List.getElem?_map, hy (by omega)]; rfl) (by decide))) (fun a _ => (by first | exact invx_mk rfl | exact invx_mk (List.append_assoc _ _ _) | exact invx_all)) ?_
          intro _ _
          refine bt_e1 ?_
          refine eff_s rfl rfl rfl (opE_pure (w_aidx 0 rfl Try.underlying24 Try.sizeOf43 (ev_tmp rfl) rfl (ev_tmp rfl) (by first | omega | ((try simp only [List.length_map, List.length_take, List.length_cons, List.length_nil, chunks_len, szR] at *); omega) | (have hc2 := hc; simp only [Bool.and_eq_true, Bool.or_eq_true, Bool.or_eq_false_iff, Bool.and_eq_false_iff, Bool.not_eq_true', Bool.not_eq_false', decide_eq_true_eq, decide_eq_false_iff_not, beq_iff_eq, bne_iff_ne, List.length_map, List.length_take] at hc2; omega)) (by first | omega | ((try simp only [List.length_map, List.length_take, List.length_cons, List.length_nil, chunks_len, szR] at *); omega) | (have hc2 := hc; simp only [Bool.and_eq_true, Bool.or_eq_true, Bool.or_eq_false_iff, Bool.and_eq_false_iff, Bool.not_eq_true', Bool.not_eq_false', decide_eq_true_eq, decide_eq_false_iff_not, beq_iff_eq, bne_iff_ne, List.length_map, List.length_take] at hc2; omega)))) (fun a _ => (by first | exact invx_mk rfl | exact invx_mk (List.append_assoc _ _ _) | exact invx_all)) ?_
          intro _ _
          refine bt_e1 ?_
          refine eff_s rfl rfl rfl (opE_pure (w_loadX 0 rfl (ev_tmp rfl) rfl Try.isAgg43 Try.sizeOf43 (by rw [Int.toNat_natCast, List.getElem?_map, hx]; rfl) (by decide))) (fun a _ => (by first | exact invx_mk rfl | exact invx_mk (List.append_assoc _ _ _) | exact invx_all)) ?_
          intro _ _
          refine bt_e1 ?_
          refine eff_s rfl rfl rfl (opE_pure (w_aidx 0 rfl Try.underlying24 Try.sizeOf43 (ev_tmp rfl) rfl (ev_tmp rfl) (by first | omega | ((try simp only [List.length_map, List.length_take, List.length_cons, List.length_nil, chunks_len, szR] at *); omega) | (have hc2 := hc; simp only [Bool.and_eq_true, Bool.or_eq_true, Bool.or_eq_false_iff, Bool.and_eq_false_iff, Bool.not_eq_true', Bool.not_eq_false', decide_eq_true_eq, decide_eq_false_iff_not, beq_iff_eq, bne_iff_ne, List.length_map, List.length_take] at hc2; omega)) (by first | omega | ((try simp only [List.length_map, List.length_take, List.length_cons, List.length_nil, chunks_len, szR] at *); omega) | (have hc2 := hc; simp only [Bool.and_eq_true, Bool.or_eq_true, Bool.or_eq_false_iff, Bool.and_eq_false_iff, Bool.not_eq_true', Bool.not_eq_false', decide_eq_true_eq, decide_eq_false_iff_not, beq_iff_eq, bne_iff_ne, List.length_map, List.length_take] at hc2; omega)))) (fun a _ => (by first | exact invx_mk rfl | exact invx_mk (List.append_assoc _ _ _) | exact invx_all)) ?_
          intro _ _
          refine bt_e1 ?_
          refine eff_s0 rfl rfl rfl (opE_storeA 0 rfl rfl (ev_tmp rfl) (ev_tmp rfl) (as_agg _) rfl Try.sizeOf43 rfl (by first | omega | ((try simp only [List.length_map, List.length_take, List.length_cons, List.length_nil, chunks_len, szR] at *); omega) | (have hc2 := hc; simp only [Bool.and_eq_true, Bool.or_eq_true, Bool.or_eq_false_iff, Bool.and_eq_false_iff, Bool.not_eq_true', Bool.not_eq_false', decide_eq_true_eq, decide_eq_false_iff_not, beq_iff_eq, bne_iff_ne, List.length_map, List.length_take] at hc2; omega))) (fun a _ => (by first | exact invx_mk rfl | exact invx_mk (List.append_assoc _ _ _) | exact invx_all)) ?_
          intro _ _
          refine bt_e1 ?_
          refine eff_s rfl rfl rfl (opE_pure (w_aidx 0 rfl Try.underlying24 Try.sizeOf43 (ev_tmp rfl) rfl (ev_tmp rfl) (by omega) (by rw [List.length_set, List.length_map]; omega))) (fun a _ => (by first | exact invx_mk rfl | exact invx_mk (List.append_assoc _ _ _) | exact invx_all)) ?_
          intro _ _
          refine bt_nil ?_
          refine sq_storeA 0 rfl rfl rfl (ev_tmp rfl) (ev_tmp rfl) (as_agg _) rfl Try.sizeOf43 rfl (by simp only [List.length_set, List.length_map]; omega) ?_
          refine sq_nil ?_
          refine awp_region ?_
          refine sq_plain rfl rfl rfl (w_move rfl (ev_tmp rfl)) ?_
          refine sq_plain rfl rfl rfl (w_subi rfl (ev_tmp rfl) ev_ci (by first | omega | ((try simp only [List.length_map, List.length_take, List.length_cons, List.length_nil, chunks_len, szR] at *); omega) | (have hc2 := hc; simp only [Bool.and_eq_true, Bool.or_eq_true, Bool.or_eq_false_iff, Bool.and_eq_false_iff, Bool.not_eq_true', Bool.not_eq_false', decide_eq_true_eq, decide_eq_false_iff_not, beq_iff_eq, bne_iff_ne, List.length_map, List.length_take] at hc2; omega))) ?_
          refine sq_plain rfl rfl rfl (w_assign rfl (ev_tmp rfl)) ?_
          refine sq_nil ?_
          refine round_end2 j l2 (j - 1) (swp l2 j (j - 1)) ?_ ?_ (le_eq (by (rw [show ((j : Int) - 1).toNat = j - 1 by omega, Int.toNat_natCast]; exact congrArg (fun z => [Own.arr v 43 5 z]) (by rw [← List.map_set, ← List.map_set, swp_eq hx (hy (by omega))]))) ⟨congrArg (fun z => some (AV.int z)) (by omega), rfl, rfl, rfl, rfl, rfl, rfl, rfl, rfl, rfl, trivial⟩)
          · exact ⟨⟨hinv.1.1.trans (shuf_swp (by omega) (by omega) (by omega) (by omega)), sink_step hs hinv.1.2 (by omega) (by omega) (hy (by omega)) hx hlt⟩, by omega, by omega⟩
          · omega
        · refine eff_s rfl rfl rfl (opE_pure (w_aidx 0 rfl Try.underlying24 Try.sizeOf43 (ev_tmp rfl) rfl (ev_tmp rfl) (by first | omega | ((try simp only [List.length_map, List.length_take, List.length_cons, List.length_nil, chunks_len, szR] at *); omega) | (have hc2 := hc; simp only [Bool.and_eq_true, Bool.or_eq_true, Bool.or_eq_false_iff, Bool.and_eq_false_iff, Bool.not_eq_true', Bool.not_eq_false', decide_eq_true_eq, decide_eq_false_iff_not, beq_iff_eq, bne_iff_ne, List.length_map, List.length_take] at hc2; omega)) (by first | omega | ((try simp only [List.length_map, List.length_take, List.length_cons, List.length_nil, chunks_len, szR] at *); omega) | (have hc2 := hc; simp only [Bool.and_eq_true, Bool.or_eq_true, Bool.or_eq_false_iff, Bool.and_eq_false_iff, Bool.not_eq_true', Bool.not_eq_false', decide_eq_true_eq, decide_eq_false_iff_not, beq_iff_eq, bne_iff_ne, List.length_map, List.length_take] at hc2; omega)))) (fun a _ => (by first | exact invx_mk rfl | exact invx_mk (List.append_assoc _ _ _) | exact invx_all)) ?_
          intro _ _
          refine bt_e2 ?_ ?_
          · refine eff_s rfl rfl rfl (opE_pure (w_loadX 0 rfl (ev_tmp rfl) rfl Try.isAgg43 Try.sizeOf43 (by rw [show ((j : Int) - 1).toNat = j - 1 by omega, List.getElem?_map, hy (by omega)]; rfl) (by decide))) (fun a _ => (by first | exact invx_mk rfl | exact invx_mk (List.append_assoc _ _ _) | exact invx_all)) ?_
            intro _ _
            refine bt_e1 ?_
            refine eff_s rfl rfl rfl (opE_pure (w_loadX 0 rfl (ev_tmp rfl) rfl Try.isAgg43 Try.sizeOf43 (by rw [Int.toNat_natCast, List.getElem?_map, hx]; rfl) (by decide))) (fun a _ => (by first | exact invx_mk rfl | exact invx_mk (List.append_assoc _ _ _) | exact invx_all)) ?_
            intro _ _
            refine bt_e1 ?_
            refine eff_s rfl rfl rfl (opE_pure (w_aidx 0 rfl Try.underlying24 Try.sizeOf43 (ev_tmp rfl) rfl (ev_tmp rfl) (by first | omega | ((try simp only [List.length_map, List.length_take, List.length_cons, List.length_nil, chunks_len, szR] at *); omega) | (have hc2 := hc; simp only [Bool.and_eq_true, Bool.or_eq_true, Bool.or_eq_false_iff, Bool.and_eq_false_iff, Bool.not_eq_true', Bool.not_eq_false', decide_eq_true_eq, decide_eq_false_iff_not, beq_iff_eq, bne_iff_ne, List.length_map, List.length_take] at hc2; omega)) (by first | omega | ((try simp only [List.length_map, List.length_take, List.length_cons, List.length_nil, chunks_len, szR] at *); omega) | (have hc2 := hc; simp only [Bool.and_eq_true, Bool.or_eq_true, Bool.or_eq_false_iff, Bool.and_eq_false_iff, Bool.not_eq_true', Bool.not_eq_false', decide_eq_true_eq, decide_eq_false_iff_not, beq_iff_eq, bne_iff_ne, List.length_map, List.length_take] at hc2; omega)))) (fun a _ => (by first | exact invx_mk rfl | exact invx_mk (List.append_assoc _ _ _) | exact invx_all)) ?_
            intro _ _
            refine bt_e1 ?_
            refine eff_s0 rfl rfl rfl (opE_storeA 0 rfl rfl (ev_tmp rfl) (ev_tmp rfl) (as_agg _) rfl Try.sizeOf43 rfl (by first | omega | ((try simp only [List.length_map, List.length_take, List.length_cons, List.length_nil, chunks_len, szR] at *); omega) | (have hc2 := hc; simp only [Bool.and_eq_true, Bool.or_eq_true, Bool.or_eq_false_iff, Bool.and_eq_false_iff, Bool.not_eq_true', Bool.not_eq_false', decide_eq_true_eq, decide_eq_false_iff_not, beq_iff_eq, bne_iff_ne, List.length_map, List.length_take] at hc2; omega))) (fun a _ => (by first | exact invx_mk rfl | exact invx_mk (List.append_assoc _ _ _) | exact invx_all)) ?_
            intro _ _
            refine bt_e1 ?_
            refine eff_s rfl rfl rfl (opE_pure (w_aidx 0 rfl Try.underlying24 Try.sizeOf43 (ev_tmp rfl) rfl (ev_tmp rfl) (by omega) (by rw [List.length_set, List.length_map]; omega))) (fun a _ => (by first | exact invx_mk rfl | exact invx_mk (List.append_assoc _ _ _) | exact invx_all)) ?_
            intro _ _
            refine bt_nil ?_
            refine sq_storeA 0 rfl rfl rfl (ev_tmp rfl) (ev_tmp rfl) (as_agg _) rfl Try.sizeOf43 rfl (by simp only [List.length_set, List.length_map]; omega) ?_
            refine sq_nil ?_
            refine awp_region ?_
            refine sq_plain rfl rfl rfl (w_move rfl (ev_tmp rfl)) ?_
            refine sq_plain rfl rfl rfl (w_subi rfl (ev_tmp rfl) ev_ci (by first | omega | ((try simp only [List.length_map, List.length_take, List.length_cons, List.length_nil, chunks_len, szR] at *); omega) | (have hc2 := hc; simp only [Bool.and_eq_true, Bool.or_eq_true, Bool.or_eq_false_iff, Bool.and_eq_false_iff, Bool.not_eq_true', Bool.not_eq_false', decide_eq_true_eq, decide_eq_false_iff_not, beq_iff_eq, bne_iff_ne, List.length_map, List.length_take] at hc2; omega))) ?_
            refine sq_plain rfl rfl rfl (w_assign rfl (ev_tmp rfl)) ?_
            refine sq_nil ?_
            refine round_end2 j l2 (j - 1) (swp l2 j (j - 1)) ?_ ?_ (le_eq (by (rw [show ((j : Int) - 1).toNat = j - 1 by omega, Int.toNat_natCast]; exact congrArg (fun z => [Own.arr v 43 5 z]) (by rw [← List.map_set, ← List.map_set, swp_eq hx (hy (by omega))]))) ⟨congrArg (fun z => some (AV.int z)) (by omega), rfl, rfl, rfl, rfl, rfl, rfl, rfl, rfl, rfl, trivial⟩)
            · exact ⟨⟨hinv.1.1.trans (shuf_swp (by omega) (by omega) (by omega) (by omega)), sink_step hs hinv.1.2 (by omega) (by omega) (hy (by omega)) hx hlt⟩, by omega, by omega⟩
            · omega
          · refine eff_s rfl rfl rfl (opE_pure (w_loadX 0 rfl (ev_tmp rfl) rfl Try.isAgg43 Try.sizeOf43 (by rw [Int.toNat_natCast, List.getElem?_map, hx]; rfl) (by decide))) (fun a _ => (by first | exact invx_mk rfl | exact invx_mk (List.append_assoc _ _ _) | exact invx_all)) ?_
            intro _ _
            refine bt_e1 ?_
            refine eff_s rfl rfl rfl (opE_pure (w_loadX 0 rfl (ev_tmp rfl) rfl Try.isAgg43 Try.sizeOf43 (by rw [show ((j : Int) - 1).toNat = j - 1 by omega, List.getElem?_map, hy (by omega)]; rfl) (by decide))) (fun a _ => (by first | exact invx_mk rfl | exact invx_mk (List.append_assoc _ _ _) | exact invx_all)) ?_
            intro _ _
            refine bt_e1 ?_
            refine eff_s rfl rfl rfl (opE_pure (w_aidx 0 rfl Try.underlying24 Try.sizeOf43 (ev_tmp rfl) rfl (ev_tmp rfl) (by first | omega | ((try simp only [List.length_map, List.length_take, List.length_cons, List.length_nil, chunks_len, szR] at *); omega) | (have hc2 := hc; simp only [Bool.and_eq_true, Bool.or_eq_true, Bool.or_eq_false_iff, Bool.and_eq_false_iff, Bool.not_eq_true', Bool.not_eq_false', decide_eq_true_eq, decide_eq_false_iff_not, beq_iff_eq, bne_iff_ne, List.length_map, List.length_take] at hc2; omega)) (by first | omega | ((try simp only [List.length_map, List.length_take, List.length_cons, List.length_nil, chunks_len, szR] at *); omega) | (have hc2 := hc; simp only [Bool.and_eq_true, Bool.or_eq_true, Bool.or_eq_false_iff, Bool.and_eq_false_iff, Bool.not_eq_true', Bool.not_eq_false', decide_eq_true_eq, decide_eq_false_iff_not, beq_iff_eq, bne_iff_ne, List.length_map, List.length_take] at hc2; omega)))) (fun a _ => (by first | exact invx_mk rfl | exact invx_mk (List.append_assoc _ _ _) | exact invx_all)) ?_
            intro _ _
            refine bt_e1 ?_
            refine eff_s0 rfl rfl rfl (opE_storeA 0 rfl rfl (ev_tmp rfl) (ev_tmp rfl) (as_agg _) rfl Try.sizeOf43 rfl (by first | omega | ((try simp only [List.length_map, List.length_take, List.length_cons, List.length_nil, chunks_len, szR] at *); omega) | (have hc2 := hc; simp only [Bool.and_eq_true, Bool.or_eq_true, Bool.or_eq_false_iff, Bool.and_eq_false_iff, Bool.not_eq_true', Bool.not_eq_false', decide_eq_true_eq, decide_eq_false_iff_not, beq_iff_eq, bne_iff_ne, List.length_map, List.length_take] at hc2; omega))) (fun a _ => (by first | exact invx_mk rfl | exact invx_mk (List.append_assoc _ _ _) | exact invx_all)) ?_
            intro _ _
            refine bt_e1 ?_
            refine eff_s rfl rfl rfl (opE_pure (w_aidx 0 rfl Try.underlying24 Try.sizeOf43 (ev_tmp rfl) rfl (ev_tmp rfl) (by omega) (by rw [List.length_set, List.length_map]; omega))) (fun a _ => (by first | exact invx_mk rfl | exact invx_mk (List.append_assoc _ _ _) | exact invx_all)) ?_
            intro _ _
            refine bt_nil ?_
            refine sq_storeA 0 rfl rfl rfl (ev_tmp rfl) (ev_tmp rfl) (as_agg _) rfl Try.sizeOf43 rfl (by simp only [List.length_set, List.length_map]; omega) ?_
            refine sq_nil ?_
            refine awp_region ?_
            refine sq_plain rfl rfl rfl (w_move rfl (ev_tmp rfl)) ?_
            refine sq_plain rfl rfl rfl (w_subi rfl (ev_tmp rfl) ev_ci (by first | omega | ((try simp only [List.length_map, List.length_take, List.length_cons, List.length_nil, chunks_len, szR] at *); omega) | (have hc2 := hc; simp only [Bool.and_eq_true, Bool.or_eq_true, Bool.or_eq_false_iff, Bool.and_eq_false_iff, Bool.not_eq_true', Bool.not_eq_false', decide_eq_true_eq, decide_eq_false_iff_not, beq_iff_eq, bne_iff_ne, List.length_map, List.length_take] at hc2; omega))) ?_
            refine sq_plain rfl rfl rfl (w_assign rfl (ev_tmp rfl)) ?_
            refine sq_nil ?_
            refine round_end2 j l2 (j - 1) (swp l2 j (j - 1)) ?_ ?_ (le_eq (by (rw [show ((j : Int) - 1).toNat = j - 1 by omega, Int.toNat_natCast]; exact congrArg (fun z => [Own.arr v 43 5 z]) (by rw [← List.map_set, ← List.map_set, swp_eq hx (hy (by omega))]))) ⟨congrArg (fun z => some (AV.int z)) (by omega), rfl, rfl, rfl, rfl, rfl, rfl, rfl, rfl, rfl, trivial⟩)
            · exact ⟨⟨hinv.1.1.trans (shuf_swp (by omega) (by omega) (by omega) (by omega)), sink_step hs hinv.1.2 (by omega) (by omega) (hy (by omega)) hx hlt⟩, by omega, by omega⟩
            · omega
      · refine eff_s rfl rfl rfl (opE_pure (w_aidx 0 rfl Try.underlying24 Try.sizeOf43 (ev_tmp rfl) rfl (ev_tmp rfl) (by first | omega | ((try simp only [List.length_map, List.length_take, List.length_cons, List.length_nil, chunks_len, szR] at *); omega) | (have hc2 := hc; simp only [Bool.and_eq_true, Bool.or_eq_true, Bool.or_eq_false_iff, Bool.and_eq_false_iff, Bool.not_eq_true', Bool.not_eq_false', decide_eq_true_eq, decide_eq_false_iff_not, beq_iff_eq, bne_iff_ne, List.length_map, List.length_take] at hc2; omega)) (by first | omega | ((try simp only [List.length_map, List.length_take, List.length_cons, List.length_nil, chunks_len, szR] at *); omega) | (have hc2 := hc; simp only [Bool.and_eq_true, Bool.or_eq_true, Bool.or_eq_false_iff, Bool.and_eq_false_iff, Bool.not_eq_true', Bool.not_eq_false', decide_eq_true_eq, decide_eq_false_iff_not, beq_iff_eq, bne_iff_ne, List.length_map, List.length_take] at hc2; omega)))) (fun a _ => (by first | exact invx_mk rfl | exact invx_mk (List.append_assoc _ _ _) | exact invx_all)) ?_
        intro _ _
        refine bt_e2 ?_ ?_
        · refine eff_s rfl rfl rfl (opE_pure (w_aidx 0 rfl Try.underlying24 Try.sizeOf43 (ev_tmp rfl) rfl (ev_tmp rfl) (by first | omega | ((try simp only [List.length_map, List.length_take, List.length_cons, List.length_nil, chunks_len, szR] at *); omega) | (have hc2 := hc; simp only [Bool.and_eq_true, Bool.or_eq_true, Bool.or_eq_false_iff, Bool.and_eq_false_iff, Bool.not_eq_true', Bool.not_eq_false', decide_eq_true_eq, decide_eq_false_iff_not, beq_iff_eq, bne_iff_ne, List.length_map, List.length_take] at hc2; omega)) (by first | omega | ((try simp only [List.length_map, List.length_take, List.length_cons, List.length_nil, chunks_len, szR] at *); omega) | (have hc2 := hc; simp only [Bool.and_eq_true, Bool.or_eq_true, Bool.or_eq_false_iff, Bool.and_eq_false_iff, Bool.not_eq_true', Bool.not_eq_false', decide_eq_true_eq, decide_eq_false_iff_not, beq_iff_eq, bne_iff_ne, List.length_map, List.length_take] at hc2; omega)))) (fun a _ => (by first | exact invx_mk rfl | exact invx_mk (List.append_assoc _ _ _) | exact invx_all)) ?_
          intro _ _
          refine bt_e2 ?_ ?_
          · refine eff_s rfl rfl rfl (opE_pure (w_loadX 0 rfl (ev_tmp rfl) rfl Try.isAgg43 Try.sizeOf43 (by rw [show ((j : Int) - 1).toNat = j - 1 by omega, List.getElem?_map, hy (by omega)]; rfl) (by decide))) (fun a _ => (by first | exact invx_mk rfl | exact invx_mk (List.append_assoc _ _ _) | exact invx_all)) ?_
            intro _ _
            refine bt_e1 ?_
            refine eff_s rfl rfl rfl (opE_pure (w_loadX 0 rfl (ev_tmp rfl) rfl Try.isAgg43 Try.sizeOf43 (by rw [Int.toNat_natCast, List.getElem?_map, hx]; rfl) (by decide))) (fun a _ => (by first | exact invx_mk rfl | exact invx_mk (List.append_assoc _ _ _) | exact invx_all)) ?_
            intro _ _
            refine bt_e1 ?_
            refine eff_s rfl rfl rfl (opE_pure (w_aidx 0 rfl Try.underlying24 Try.sizeOf43 (ev_tmp rfl) rfl (ev_tmp rfl) (by first | omega | ((try simp only [List.length_map, List.length_take, List.length_cons, List.length_nil, chunks_len, szR] at *); omega) | (have hc2 := hc; simp only [Bool.and_eq_true, Bool.or_eq_true, Bool.or_eq_false_iff, Bool.and_eq_false_iff, Bool.not_eq_true', Bool.not_eq_false', decide_eq_true_eq, decide_eq_false_iff_not, beq_iff_eq, bne_iff_ne, List.length_map, List.length_take] at hc2; omega)) (by first | omega | ((try simp only [List.length_map, List.length_take, List.length_cons, List.length_nil, chunks_len, szR] at *); omega) | (have hc2 := hc; simp only [Bool.and_eq_true, Bool.or_eq_true, Bool.or_eq_false_iff, Bool.and_eq_false_iff, Bool.not_eq_true', Bool.not_eq_false', decide_eq_true_eq, decide_eq_false_iff_not, beq_iff_eq, bne_iff_ne, List.length_map, List.length_take] at hc2; omega)))) (fun a _ => (by first | exact invx_mk rfl | exact invx_mk (List.append_assoc _ _ _) | exact invx_all)) ?_
            intro _ _
            refine bt_e1 ?_
            refine eff_s0 rfl rfl rfl (opE_storeA 0 rfl rfl (ev_tmp rfl) (ev_tmp rfl) (as_agg _) rfl Try.sizeOf43 rfl (by first | omega | ((try simp only [List.length_map, List.length_take, List.length_cons, List.length_nil, chunks_len, szR] at *); omega) | (have hc2 := hc; simp only [Bool.and_eq_true, Bool.or_eq_true, Bool.or_eq_false_iff, Bool.and_eq_false_iff, Bool.not_eq_true', Bool.not_eq_false', decide_eq_true_eq, decide_eq_false_iff_not, beq_iff_eq, bne_iff_ne, List.length_map, List.length_take] at hc2; omega))) (fun a _ => (by first | exact invx_mk rfl | exact invx_mk (List.append_assoc _ _ _) | exact invx_all)) ?_
            intro _ _
            refine bt_e1 ?_
            refine eff_s rfl rfl rfl (opE_pure (w_aidx 0 rfl Try.underlying24 Try.sizeOf43 (ev_tmp rfl) rfl (ev_tmp rfl) (by omega) (by rw [List.length_set, List.length_map]; omega))) (fun a _ => (by first | exact invx_mk rfl | exact invx_mk (List.append_assoc _ _ _) | exact invx_all)) ?_
            intro _ _
            refine bt_nil ?_
            refine sq_storeA 0 rfl rfl rfl (ev_tmp rfl) (ev_tmp rfl) (as_agg _) rfl Try.sizeOf43 rfl (by simp only [List.length_set, List.length_map]; omega) ?_
            refine sq_nil ?_
            refine awp_region ?_
            refine sq_plain rfl rfl rfl (w_move rfl (ev_tmp rfl)) ?_
            refine sq_plain rfl rfl rfl (w_subi rfl (ev_tmp rfl) ev_ci (by first | omega | ((try simp only [List.length_map, List.length_take, List.length_cons, List.length_nil, chunks_len, szR] at *); omega) | (have hc2 := hc; simp only [Bool.and_eq_true, Bool.or_eq_true, Bool.or_eq_false_iff, Bool.and_eq_false_iff, Bool.not_eq_true', Bool.not_eq_false', decide_eq_true_eq, decide_eq_false_iff_not, beq_iff_eq, bne_iff_ne, List.length_map, List.length_take] at hc2; omega))) ?_
            refine sq_plain rfl rfl rfl (w_assign rfl (ev_tmp rfl)) ?_
            refine sq_nil ?_
            refine round_end2 j l2 (j - 1) (swp l2 j (j - 1)) ?_ ?_ (le_eq (by (rw [show ((j : Int) - 1).toNat = j - 1 by omega, Int.toNat_natCast]; exact congrArg (fun z => [Own.arr v 43 5 z]) (by rw [← List.map_set, ← List.map_set, swp_eq hx (hy (by omega))]))) ⟨congrArg (fun z => some (AV.int z)) (by omega), rfl, rfl, rfl, rfl, rfl, rfl, rfl, rfl, rfl, trivial⟩)
            · exact ⟨⟨hinv.1.1.trans (shuf_swp (by omega) (by omega) (by omega) (by omega)), sink_step hs hinv.1.2 (by omega) (by omega) (hy (by omega)) hx hlt⟩, by omega, by omega⟩
            · omega
          · refine eff_s rfl rfl rfl (opE_pure (w_loadX 0 rfl (ev_tmp rfl) rfl Try.isAgg43 Try.sizeOf43 (by rw [Int.toNat_natCast, List.getElem?_map, hx]; rfl) (by decide))) (fun a _ => (by first | exact invx_mk rfl | exact invx_mk (List.append_assoc _ _ _) | exact invx_all)) ?_
            intro _ _
            refine bt_e1 ?_
            refine eff_s rfl rfl rfl (opE_pure (w_loadX 0 rfl (ev_tmp rfl) rfl Try.isAgg43 Try.sizeOf43 (by rw [show ((j : Int) - 1).toNat = j - 1 by omega, List.getElem?_map, hy (by omega)]; rfl) (by decide))) (fun a _ => (by first | exact invx_mk rfl | exact invx_mk (List.append_assoc _ _ _) | exact invx_all)) ?_
            intro _ _
            refine bt_e1 ?_
            refine eff_s rfl rfl rfl (opE_pure (w_aidx 0 rfl Try.underlying24 Try.sizeOf43 (ev_tmp rfl) rfl (ev_tmp rfl) (by first | omega | ((try simp only [List.length_map, List.length_take, List.length_cons, List.length_nil, chunks_len, szR] at *); omega) | (have hc2 := hc; simp only [Bool.and_eq_true, Bool.or_eq_true, Bool.or_eq_false_iff, Bool.and_eq_false_iff, Bool.not_eq_true', Bool.not_eq_false', decide_eq_true_eq, decide_eq_false_iff_not, beq_iff_eq, bne_iff_ne, List.length_map, List.length_take] at hc2; omega)) (by first | omega | ((try simp only [List.length_map, List.length_take, List.length_cons, List.length_nil, chunks_len, szR] at *); omega) | (have hc2 := hc; simp only [Bool.and_eq_true, Bool.or_eq_true, Bool.or_eq_false_iff, Bool.and_eq_false_iff, Bool.not_eq_true', Bool.not_eq_false', decide_eq_true_eq, decide_eq_false_iff_not, beq_iff_eq, bne_iff_ne, List.length_map, List.length_take] at hc2; omega)))) (fun a _ => (by first | exact invx_mk rfl | exact invx_mk (List.append_assoc _ _ _) | exact invx_all)) ?_
            intro _ _
            refine bt_e1 ?_
            refine eff_s0 rfl rfl rfl (opE_storeA 0 rfl rfl (ev_tmp rfl) (ev_tmp rfl) (as_agg _) rfl Try.sizeOf43 rfl (by first | omega | ((try simp only [List.length_map, List.length_take, List.length_cons, List.length_nil, chunks_len, szR] at *); omega) | (have hc2 := hc; simp only [Bool.and_eq_true, Bool.or_eq_true, Bool.or_eq_false_iff, Bool.and_eq_false_iff, Bool.not_eq_true', Bool.not_eq_false', decide_eq_true_eq, decide_eq_false_iff_not, beq_iff_eq, bne_iff_ne, List.length_map, List.length_take] at hc2; omega))) (fun a _ => (by first | exact invx_mk rfl | exact invx_mk (List.append_assoc _ _ _) | exact invx_all)) ?_
            intro _ _
            refine bt_e1 ?_
            refine eff_s rfl rfl rfl (opE_pure (w_aidx 0 rfl Try.underlying24 Try.sizeOf43 (ev_tmp rfl) rfl (ev_tmp rfl) (by omega) (by rw [List.length_set, List.length_map]; omega))) (fun a _ => (by first | exact invx_mk rfl | exact invx_mk (List.append_assoc _ _ _) | exact invx_all)) ?_
            intro _ _
            refine bt_nil ?_
            refine sq_storeA 0 rfl rfl rfl (ev_tmp rfl) (ev_tmp rfl) (as_agg _) rfl Try.sizeOf43 rfl (by simp only [List.length_set, List.length_map]; omega) ?_
            refine sq_nil ?_
            refine awp_region ?_
            refine sq_plain rfl rfl rfl (w_move rfl (ev_tmp rfl)) ?_
            refine sq_plain rfl rfl rfl (w_subi rfl (ev_tmp rfl) ev_ci (by first | omega | ((try simp only [List.length_map, List.length_take, List.length_cons, List.length_nil, chunks_len, szR] at *); omega) | (have hc2 := hc; simp only [Bool.and_eq_true, Bool.or_eq_true, Bool.or_eq_false_iff, Bool.and_eq_false_iff, Bool.not_eq_true', Bool.not_eq_false', decide_eq_true_eq, decide_eq_false_iff_not, beq_iff_eq, bne_iff_ne, List.length_map, List.length_take] at hc2; omega))) ?_
            refine sq_plain rfl rfl rfl (w_assign rfl (ev_tmp rfl)) ?_
            refine sq_nil ?_
            refine round_end2 j l2 (j - 1) (swp l2 j (j - 1)) ?_ ?_ (le_eq (by (rw [show ((j : Int) - 1).toNat = j - 1 by omega, Int.toNat_natCast]; exact congrArg (fun z => [Own.arr v 43 5 z]) (by rw [← List.map_set, ← List.map_set, swp_eq hx (hy (by omega))]))) ⟨congrArg (fun z => some (AV.int z)) (by omega), rfl, rfl, rfl, rfl, rfl, rfl, rfl, rfl, rfl, trivial⟩)
            · exact ⟨⟨hinv.1.1.trans (shuf_swp (by omega) (by omega) (by omega) (by omega)), sink_step hs hinv.1.2 (by omega) (by omega) (hy (by omega)) hx hlt⟩, by omega, by omega⟩
            · omega
        · refine eff_s rfl rfl rfl (opE_pure (w_loadX 0 rfl (ev_tmp rfl) rfl Try.isAgg43 Try.sizeOf43 (by rw [Int.toNat_natCast, List.getElem?_map, hx]; rfl) (by decide))) (fun a _ => (by first | exact invx_mk rfl | exact invx_mk (List.append_assoc _ _ _) | exact invx_all)) ?_
          intro _ _
          refine bt_e1 ?_
          refine eff_s rfl rfl rfl (opE_pure (w_aidx 0 rfl Try.underlying24 Try.sizeOf43 (ev_tmp rfl) rfl (ev_tmp rfl) (by first | omega | ((try simp only [List.length_map, List.length_take, List.length_cons, List.length_nil, chunks_len, szR] at *); omega) | (have hc2 := hc; simp only [Bool.and_eq_true, Bool.or_eq_true, Bool.or_eq_false_iff, Bool.and_eq_false_iff, Bool.not_eq_true', Bool.not_eq_false', decide_eq_true_eq, decide_eq_false_iff_not, beq_iff_eq, bne_iff_ne, List.length_map, List.length_take] at hc2; omega)) (by first | omega | ((try simp only [List.length_map, List.length_take, List.length_cons, List.length_nil, chunks_len, szR] at *); omega) | (have hc2 := hc; simp only [Bool.and_eq_true, Bool.or_eq_true, Bool.or_eq_false_iff, Bool.and_eq_false_iff, Bool.not_eq_true', Bool.not_eq_false', decide_eq_true_eq, decide_eq_false_iff_not, beq_iff_eq, bne_iff_ne, List.length_map, List.length_take] at hc2; omega)))) (fun a _ => (by first | exact invx_mk rfl | exact invx_mk (List.append_assoc _ _ _) | exact invx_all)) ?_
          intro _ _
          refine bt_e1 ?_
          refine eff_s rfl rfl rfl (opE_pure (w_loadX 0 rfl (ev_tmp rfl) rfl Try.isAgg43 Try.sizeOf43 (by rw [show ((j : Int) - 1).toNat = j - 1 by omega, List.getElem?_map, hy (by omega)]; rfl) (by decide))) (fun a _ => (by first | exact invx_mk rfl | exact invx_mk (List.append_assoc _ _ _) | exact invx_all)) ?_
          intro _ _
          refine bt_e1 ?_
          refine eff_s rfl rfl rfl (opE_pure (w_aidx 0 rfl Try.underlying24 Try.sizeOf43 (ev_tmp rfl) rfl (ev_tmp rfl) (by first | omega | ((try simp only [List.length_map, List.length_take, List.length_cons, List.length_nil, chunks_len, szR] at *); omega) | (have hc2 := hc; simp only [Bool.and_eq_true, Bool.or_eq_true, Bool.or_eq_false_iff, Bool.and_eq_false_iff, Bool.not_eq_true', Bool.not_eq_false', decide_eq_true_eq, decide_eq_false_iff_not, beq_iff_eq, bne_iff_ne, List.length_map, List.length_take] at hc2; omega)) (by first | omega | ((try simp only [List.length_map, List.length_take, List.length_cons, List.length_nil, chunks_len, szR] at *); omega) | (have hc2 := hc; simp only [Bool.and_eq_true, Bool.or_eq_true, Bool.or_eq_false_iff, Bool.and_eq_false_iff, Bool.not_eq_true', Bool.not_eq_false', decide_eq_true_eq, decide_eq_false_iff_not, beq_iff_eq, bne_iff_ne, List.length_map, List.length_take] at hc2; omega)))) (fun a _ => (by first | exact invx_mk rfl | exact invx_mk (List.append_assoc _ _ _) | exact invx_all)) ?_
          intro _ _
          refine bt_e1 ?_
          refine eff_s0 rfl rfl rfl (opE_storeA 0 rfl rfl (ev_tmp rfl) (ev_tmp rfl) (as_agg _) rfl Try.sizeOf43 rfl (by first | omega | ((try simp only [List.length_map, List.length_take, List.length_cons, List.length_nil, chunks_len, szR] at *); omega) | (have hc2 := hc; simp only [Bool.and_eq_true, Bool.or_eq_true, Bool.or_eq_false_iff, Bool.and_eq_false_iff, Bool.not_eq_true', Bool.not_eq_false', decide_eq_true_eq, decide_eq_false_iff_not, beq_iff_eq, bne_iff_ne, List.length_map, List.length_take] at hc2; omega))) (fun a _ => (by first | exact invx_mk rfl | exact invx_mk (List.append_assoc _ _ _) | exact invx_all)) ?_
          intro _ _
          refine bt_e1 ?_
          refine eff_s rfl rfl rfl (opE_pure (w_aidx 0 rfl Try.underlying24 Try.sizeOf43 (ev_tmp rfl) rfl (ev_tmp rfl) (by omega) (by rw [List.length_set, List.length_map]; omega))) (fun a _ => (by first | exact invx_mk rfl | exact invx_mk (List.append_assoc _ _ _) | exact invx_all)) ?_
          intro _ _
          refine bt_nil ?_
          refine sq_storeA 0 rfl rfl rfl (ev_tmp rfl) (ev_tmp rfl) (as_agg _) rfl Try.sizeOf43 rfl (by simp only [List.length_set, List.length_map]; omega) ?_
          refine sq_nil ?_
          refine awp_region ?_
          refine sq_plain rfl rfl rfl (w_move rfl (ev_tmp rfl)) ?_
          refine sq_plain rfl rfl rfl (w_subi rfl (ev_tmp rfl) ev_ci (by first | omega | ((try simp only [List.length_map, List.length_take, List.length_cons, List.length_nil, chunks_len, szR] at *); omega) | (have hc2 := hc; simp only [Bool.and_eq_true, Bool.or_eq_true, Bool.or_eq_false_iff, Bool.and_eq_false_iff, Bool.not_eq_true', Bool.not_eq_false', decide_eq_true_eq, decide_eq_false_iff_not, beq_iff_eq, bne_iff_ne, List.length_map, List.length_take] at hc2; omega))) ?_
          refine sq_plain rfl rfl rfl (w_assign rfl (ev_tmp rfl)) ?_
          refine sq_nil ?_
          refine round_end2 j l2 (j - 1) (swp l2 j (j - 1)) ?_ ?_ (le_eq (by (rw [show ((j : Int) - 1).toNat = j - 1 by omega, Int.toNat_natCast]; exact congrArg (fun z => [Own.arr v 43 5 z]) (by rw [← List.map_set, ← List.map_set, swp_eq hx (hy (by omega))]))) ⟨congrArg (fun z => some (AV.int z)) (by omega), rfl, rfl, rfl, rfl, rfl, rfl, rfl, rfl, rfl, trivial⟩)
          · exact ⟨⟨hinv.1.1.trans (shuf_swp (by omega) (by omega) (by omega) (by omega)), sink_step hs hinv.1.2 (by omega) (by omega) (hy (by omega)) hx hlt⟩, by omega, by omega⟩
          · omega
    · intro h34
      have hinv2 := hinv
      have hsd : SortedOn (fun x y => decide (f x y < 0)) l2 a (i + 1) := sink_end hs hinv.1.2 (by omega) (by (by_cases haj : a < j); (refine .inr ⟨y, x, hy (by omega), hx, ?_⟩; simp only [decide_eq_true (show (a : Int) < (j : Int) by omega), Bool.true_and] at h34; exact h34); exact .inl (by omega))
      refine awp_exit ?_
      refine awp_region ?_
      refine sq_plain rfl rfl rfl (w_move rfl (ev_tmp rfl)) ?_
      refine sq_plain rfl rfl rfl (w_addi rfl (ev_tmp rfl) ev_ci (by first | omega | ((try simp only [List.length_map, List.length_take, List.length_cons, List.length_nil, chunks_len, szR] at *); omega) | (have hc2 := hc; simp only [Bool.and_eq_true, Bool.or_eq_true, Bool.or_eq_false_iff, Bool.and_eq_false_iff, Bool.not_eq_true', Bool.not_eq_false', decide_eq_true_eq, decide_eq_false_iff_not, beq_iff_eq, bne_iff_ne, List.length_map, List.length_take] at hc2; omega))) ?_
      refine sq_plain rfl rfl rfl (w_assign rfl (ev_tmp rfl)) ?_
      refine sq_nil ?_
      refine round_end2 i l1 (i + 1) (l2) ?_ ?_ (le_eq (by rfl) ⟨rfl, rfl, rfl, rfl, rfl, trivial⟩)
      · exact ⟨⟨hinv2.1.1, hsd⟩, by omega, by omega⟩
      · omega
  · intro h14
    have k14 := of_decide_eq_false h14; try simp only [List.length_map] at k14
    refine awp_exit ?_
    (refine retG [0] (l1) ?_ rfl (by first | (dsimp only; rfl) | rfl) (resN rfl (by decide) rv_nil); exact ⟨hsh1, fun p q u w h1 h2 h3 => hso1 p q u w h1 h2 (by omega)⟩)
end Go.Proofs.Ytcglmbinmfkafaa

set_option linter.unusedVariables false
set_option linter.unusedSimpArgs false
set_option maxRecDepth 100000
set_option maxHeartbeats 1000000
namespace Go.Proofs.Ytcglmbinmfkafaa
open Go Go.AV Go.M
attribute [local irreducible] OpW OpA OpS AWP FSpec ESpec GSpec OpE RetOk RetOkG RvDen Le Ev GuardIs SrcIs Int.tmod Int.tdiv IntKind.wrap
theorem rotate_own (v : Value) (l : List TFeedItem) (a m b : Nat) (g : AV) (ham : a < m) (hmb : m < b) (hb : b ≤ l.length) (hl : l.length ≤ 1048576) : GSpec Try.prog 61 [AV.is v, AV.int a, AV.int m, AV.int b, g] [.arr v 43 5 (l.map TFeedItem.cs)]
    (fun l' : List TFeedItem => Shuf l l' a b ∧ Rot l l' a m b) (fun l' => [.arr v 43 5 (l'.map TFeedItem.cs)]) (fun _ => AV.tup []) := by
  refine gspec_of_awp Try.func61 rfl Try.ntmps61 rfl ?_
  refine awp_seq ?_
  refine awp_region ?_
  refine sq_plain rfl rfl rfl (w_move rfl (ev_tmp rfl)) ?_
  refine sq_plain rfl rfl rfl (w_move rfl (ev_tmp rfl)) ?_
  refine sq_plain rfl rfl rfl (w_subi rfl (ev_tmp rfl) (ev_tmp rfl) (by first | omega | ((try simp only [List.length_map, List.length_take, List.length_cons, List.length_nil, chunks_len, szR] at *); omega) | (have hc2 := hc; simp only [Bool.and_eq_true, Bool.or_eq_true, Bool.or_eq_false_iff, Bool.and_eq_false_iff, Bool.not_eq_true', Bool.not_eq_false', decide_eq_true_eq, decide_eq_false_iff_not, beq_iff_eq, bne_iff_ne, List.length_map, List.length_take] at hc2; omega))) ?_
  refine sq_plain rfl rfl rfl (w_assign rfl (ev_tmp rfl)) ?_
  refine sq_nil ?_
  refine awp_seq ?_
  refine awp_region ?_
  refine sq_plain rfl rfl rfl (w_move rfl (ev_tmp rfl)) ?_
  refine sq_plain rfl rfl rfl (w_move rfl (ev_tmp rfl)) ?_
  refine sq_plain rfl rfl rfl (w_subi rfl (ev_tmp rfl) (ev_tmp rfl) (by first | omega | ((try simp only [List.length_map, List.length_take, List.length_cons, List.length_nil, chunks_len, szR] at *); omega) | (have hc2 := hc; simp only [Bool.and_eq_true, Bool.or_eq_true, Bool.or_eq_false_iff, Bool.and_eq_false_iff, Bool.not_eq_true', Bool.not_eq_false', decide_eq_true_eq, decide_eq_false_iff_not, beq_iff_eq, bne_iff_ne, List.length_map, List.length_take] at hc2; omega))) ?_
  refine sq_plain rfl rfl rfl (w_assign rfl (ev_tmp rfl)) ?_
  refine sq_nil ?_
  refine awp_seq ?_
  refine awp_block ?_
  refine awp_loop_i3 [(0, _), (2, _), (4, _)] _ (fun (i : Nat) (j : Nat) (c : List TFeedItem) => (Shuf l c a b ∧ ∀ t, Rot c t (m - i) m (m + j) → Rot l t a m b) ∧ (1 ≤ i ∧ a + i ≤ m) ∧ (1 ≤ j ∧ m + j ≤ b)) (fun (i : Nat) (j : Nat) (c : List TFeedItem) => [.arr v 43 5 (c.map TFeedItem.cs)]) (fun (i : Nat) (j : Nat) (c : List TFeedItem) => [(10, AV.int i), (11, AV.int j)]) (fun (i : Nat) (j : Nat) (c : List TFeedItem) => i + j) (m - a) (b - m) (l) ?_ (le_eq (by rfl) ⟨congrArg (fun z => some (AV.int z)) (by omega), congrArg (fun z => some (AV.int z)) (by omega), rfl, rfl, rfl, trivial⟩) ?_
  · exact ⟨⟨Shuf.refl _ _ _, fun t h => by rw [show m - (m - a) = a by omega, show m + (b - m) = b by omega] at h; exact h⟩, by omega, by omega⟩
  intro i j c hinv
  have hln := hinv.1.1.len
  refine awp_seq ?_
  refine awp_seq ?_
  refine awp_region ?_
  refine sq_plain rfl rfl rfl (w_move rfl (ev_tmp rfl)) ?_
  refine sq_plain rfl rfl rfl (w_move rfl (ev_tmp rfl)) ?_
  refine sq_plain rfl rfl rfl (w_neq rfl (ev_tmp rfl) (ev_tmp rfl)) ?_
  refine sq_nil ?_
  refine awp_cond (ev_tmp rfl) ?_ ?_
  · intro h20
    have k20 := ne_of_bne h20; try simp only [List.length_map] at k20
    refine awp_skip ?_
    refine awp_block ?_
    refine awp_seq ?_
    refine awp_region ?_
    refine sq_plain rfl rfl rfl (w_move rfl (ev_tmp rfl)) ?_
    refine sq_plain rfl rfl rfl (w_move rfl (ev_tmp rfl)) ?_
    refine sq_plain rfl rfl rfl (w_gtr rfl (ev_tmp rfl) (ev_tmp rfl)) ?_
    refine sq_nil ?_
    refine awp_cond (ev_tmp rfl) ?_ ?_
    · intro h23
      have k23 := of_decide_eq_true h23; try simp only [List.length_map] at k23
      refine awp_seq ?_
      refine awp_region ?_
      refine sq_plain rfl rfl rfl (w_move rfl (ev_tmp rfl)) ?_
      refine sq_plain rfl rfl rfl (w_move rfl (ev_tmp rfl)) ?_
      refine sq_plain rfl rfl rfl (w_move rfl (ev_tmp rfl)) ?_
      refine sq_plain rfl rfl rfl (w_subi rfl (ev_tmp rfl) (ev_tmp rfl) (by first | omega | ((try simp only [List.length_map, List.length_take, List.length_cons, List.length_nil, chunks_len, szR] at *); omega) | (have hc2 := hc; simp only [Bool.and_eq_true, Bool.or_eq_true, Bool.or_eq_false_iff, Bool.and_eq_false_iff, Bool.not_eq_true', Bool.not_eq_false', decide_eq_true_eq, decide_eq_false_iff_not, beq_iff_eq, bne_iff_ne, List.length_map, List.length_take] at hc2; omega))) ?_
      refine sq_plain rfl rfl rfl (w_move rfl (ev_tmp rfl)) ?_
      refine sq_plain rfl rfl rfl (w_move rfl (ev_tmp rfl)) ?_
      refine sq_plain rfl rfl rfl (w_move rfl (ev_tmp rfl)) ?_
      refine sq_callG [0] rfl rfl rfl rfl Try.call66 rfl (swapRange_own v c (m - i) m j _ (by omega) (by omega) (by omega)) (evl_cons (ev_tmp rfl) (evl_cons (ev_tmp (congrArg (fun z => some (AV.int z)) (show (m : Int) - (i : Int) = ((m - i : Nat) : Int) by omega))) (evl_cons (ev_tmp rfl) (evl_cons (ev_tmp rfl) (evl_cons (ev_tmp rfl) evl_nil))))) rfl ?_
      intro x31 ok31
      refine sq_nil ?_
      refine awp_region ?_
      refine sq_plain rfl rfl rfl (w_move rfl (ev_tmp rfl)) ?_
      refine sq_plain rfl rfl rfl (w_move rfl (ev_tmp rfl)) ?_
      refine sq_plain rfl rfl rfl (w_subi rfl (ev_tmp rfl) (ev_tmp rfl) (by first | omega | ((try simp only [List.length_map, List.length_take, List.length_cons, List.length_nil, chunks_len, szR] at *); omega) | (have hc2 := hc; simp only [Bool.and_eq_true, Bool.or_eq_true, Bool.or_eq_false_iff, Bool.and_eq_false_iff, Bool.not_eq_true', Bool.not_eq_false', decide_eq_true_eq, decide_eq_false_iff_not, beq_iff_eq, bne_iff_ne, List.length_map, List.length_take] at hc2; omega))) ?_
      refine sq_plain rfl rfl rfl (w_assign rfl (ev_tmp rfl)) ?_
      refine sq_nil ?_
      refine blockN ?_
      refine round_end3 i j c (i - j) (j) (swpR c (m - i) m j) ?_ ?_ (le_eq (by rfl) ⟨(by first | rfl | exact congrArg (fun z => some (AV.int z)) (by omega)), (by first | rfl | exact congrArg (fun z => some (AV.int z)) (by omega)), rfl, rfl, rfl, trivial⟩)
      · exact ⟨⟨hinv.1.1.trans (shuf_swpR (by omega) (by omega) (by omega) (by omega) (by omega) (by omega)), fun t h => hinv.1.2 t (rot_step1 (by omega) (by omega) (by omega) h)⟩, by omega, by omega⟩
      · omega
    · intro h23
      have k23 := of_decide_eq_false h23; try simp only [List.length_map] at k23
      refine awp_seq ?_
      refine awp_region ?_
      refine sq_plain rfl rfl rfl (w_move rfl (ev_tmp rfl)) ?_
      refine sq_plain rfl rfl rfl (w_move rfl (ev_tmp rfl)) ?_
      refine sq_plain rfl rfl rfl (w_move rfl (ev_tmp rfl)) ?_
      refine sq_plain rfl rfl rfl (w_subi rfl (ev_tmp rfl) (ev_tmp rfl) (by first | omega | ((try simp only [List.length_map, List.length_take, List.length_cons, List.length_nil, chunks_len, szR] at *); omega) | (have hc2 := hc; simp only [Bool.and_eq_true, Bool.or_eq_true, Bool.or_eq_false_iff, Bool.and_eq_false_iff, Bool.not_eq_true', Bool.not_eq_false', decide_eq_true_eq, decide_eq_false_iff_not, beq_iff_eq, bne_iff_ne, List.length_map, List.length_take] at hc2; omega))) ?_
      refine sq_plain rfl rfl rfl (w_move rfl (ev_tmp rfl)) ?_
      refine sq_plain rfl rfl rfl (w_move rfl (ev_tmp rfl)) ?_
      refine sq_plain rfl rfl rfl (w_addi rfl (ev_tmp rfl) (ev_tmp rfl) (by first | omega | ((try simp only [List.length_map, List.length_take, List.length_cons, List.length_nil, chunks_len, szR] at *); omega) | (have hc2 := hc; simp only [Bool.and_eq_true, Bool.or_eq_true, Bool.or_eq_false_iff, Bool.and_eq_false_iff, Bool.not_eq_true', Bool.not_eq_false', decide_eq_true_eq, decide_eq_false_iff_not, beq_iff_eq, bne_iff_ne, List.length_map, List.length_take] at hc2; omega))) ?_
      refine sq_plain rfl rfl rfl (w_move rfl (ev_tmp rfl)) ?_
      refine sq_plain rfl rfl rfl (w_subi rfl (ev_tmp rfl) (ev_tmp rfl) (by first | omega | ((try simp only [List.length_map, List.length_take, List.length_cons, List.length_nil, chunks_len, szR] at *); omega) | (have hc2 := hc; simp only [Bool.and_eq_true, Bool.or_eq_true, Bool.or_eq_false_iff, Bool.and_eq_false_iff, Bool.not_eq_true', Bool.not_eq_false', decide_eq_true_eq, decide_eq_false_iff_not, beq_iff_eq, bne_iff_ne, List.length_map, List.length_take] at hc2; omega))) ?_
      refine sq_plain rfl rfl rfl (w_move rfl (ev_tmp rfl)) ?_
      refine sq_plain rfl rfl rfl (w_move rfl (ev_tmp rfl)) ?_
      refine sq_callG [0] rfl rfl rfl rfl Try.call66 rfl (swapRange_own v c (m - i) (m + j - i) i _ (by omega) (by omega) (by omega)) (evl_cons (ev_tmp rfl) (evl_cons (ev_tmp (congrArg (fun z => some (AV.int z)) (show (m : Int) - (i : Int) = ((m - i : Nat) : Int) by omega))) (evl_cons (ev_tmp (congrArg (fun z => some (AV.int z)) (show (m : Int) + (j : Int) - (i : Int) = ((m + j - i : Nat) : Int) by omega))) (evl_cons (ev_tmp rfl) (evl_cons (ev_tmp rfl) evl_nil))))) rfl ?_
      intro x46 ok46
      refine sq_nil ?_
      refine awp_region ?_
      refine sq_plain rfl rfl rfl (w_move rfl (ev_tmp rfl)) ?_
      refine sq_plain rfl rfl rfl (w_move rfl (ev_tmp rfl)) ?_
      refine sq_plain rfl rfl rfl (w_subi rfl (ev_tmp rfl) (ev_tmp rfl) (by first | omega | ((try simp only [List.length_map, List.length_take, List.length_cons, List.length_nil, chunks_len, szR] at *); omega) | (have hc2 := hc; simp only [Bool.and_eq_true, Bool.or_eq_true, Bool.or_eq_false_iff, Bool.and_eq_false_iff, Bool.not_eq_true', Bool.not_eq_false', decide_eq_true_eq, decide_eq_false_iff_not, beq_iff_eq, bne_iff_ne, List.length_map, List.length_take] at hc2; omega))) ?_
      refine sq_plain rfl rfl rfl (w_assign rfl (ev_tmp rfl)) ?_
      refine sq_nil ?_
      refine blockN ?_
      refine round_end3 i j c (i) (j - i) (swpR c (m - i) (m + j - i) i) ?_ ?_ (le_eq (by rfl) ⟨(by first | rfl | exact congrArg (fun z => some (AV.int z)) (by omega)), (by first | rfl | exact congrArg (fun z => some (AV.int z)) (by omega)), rfl, rfl, rfl, trivial⟩)
      · exact ⟨⟨hinv.1.1.trans (shuf_swpR (by omega) (by omega) (by omega) (by omega) (by omega) (by omega)), fun t h => hinv.1.2 t (rot_step2 (by omega) (by omega) (by omega) h)⟩, by omega, by omega⟩
      · omega
  · intro h20
    have k20 := eq_of_bne_false h20; try simp only [List.length_map] at k20
    have hij : j = i := by omega
    subst hij
    refine awp_exit ?_
    refine awp_region ?_
    refine sq_plain rfl rfl rfl (w_move rfl (ev_tmp rfl)) ?_
    refine sq_plain rfl rfl rfl (w_move rfl (ev_tmp rfl)) ?_
    refine sq_plain rfl rfl rfl (w_move rfl (ev_tmp rfl)) ?_
    refine sq_plain rfl rfl rfl (w_subi rfl (ev_tmp rfl) (ev_tmp rfl) (by first | omega | ((try simp only [List.length_map, List.length_take, List.length_cons, List.length_nil, chunks_len, szR] at *); omega) | (have hc2 := hc; simp only [Bool.and_eq_true, Bool.or_eq_true, Bool.or_eq_false_iff, Bool.and_eq_false_iff, Bool.not_eq_true', Bool.not_eq_false', decide_eq_true_eq, decide_eq_false_iff_not, beq_iff_eq, bne_iff_ne, List.length_map, List.length_take] at hc2; omega))) ?_
    refine sq_plain rfl rfl rfl (w_move rfl (ev_tmp rfl)) ?_
    refine sq_plain rfl rfl rfl (w_move rfl (ev_tmp rfl)) ?_
    refine sq_plain rfl rfl rfl (w_move rfl (ev_tmp rfl)) ?_
    refine sq_callG [0] rfl rfl rfl rfl Try.call66 rfl (swapRange_own v c (m - j) m j _ (by omega) (by omega) (by omega)) (evl_cons (ev_tmp rfl) (evl_cons (ev_tmp (congrArg (fun z => some (AV.int z)) (show (m : Int) - (j : Int) = ((m - j : Nat) : Int) by omega))) (evl_cons (ev_tmp rfl) (evl_cons (ev_tmp rfl) (evl_cons (ev_tmp rfl) evl_nil))))) rfl ?_
    intro x57 ok57
    refine sq_nil ?_
    exact retG [0] (swpR c (m - j) m j) (⟨hinv.1.1.trans (shuf_swpR (by omega) (by omega) (by omega) (by omega) (by omega) (by omega)), hinv.1.2 _ (rot_end (by omega) (by omega))⟩) rfl (by rfl) (resN rfl (by decide) rv_nil)
end Go.Proofs.Ytcglmbinmfkafaa
