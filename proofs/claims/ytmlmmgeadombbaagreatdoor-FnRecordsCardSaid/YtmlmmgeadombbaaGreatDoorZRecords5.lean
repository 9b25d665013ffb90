/- Texts of the claim, part 5. -/
import Derived.Test.YtmlmmgeadombbaaGreatDoorZRecords4

set_option linter.unusedVariables false
set_option linter.unusedSimpArgs false
set_option maxRecDepth 100000
set_option maxHeartbeats 2000000
namespace Go.Proofs.YtmlmmgeadombbaaGreatDoor
open Go Go.AV Go.M
attribute [local irreducible] OpW OpA OpS AWP FSpec ESpec GSpec OpE RetOk RetOkG RvDen Le Ev GuardIs SrcIs Int.tmod Int.tdiv IntKind.wrap
theorem recWords_spec : FSpec Tryz.prog 70 [] (AV.list 1 (rcWs.map fun s => [AV.str s])) := by
  refine spec_of_awp Tryz.func70 rfl Tryz.ntmps70 rfl ?_
  refine awp_seq ?_
  refine awp_region ?_
  refine sq_plain rfl rfl rfl (w_assign rfl (ev_cnil (sz := 1))) ?_
  refine sq_nil ?_
  refine awp_seq ?_
  refine awp_region ?_
  refine sq_plain rfl rfl rfl (w_bslice rfl Tryz.underlying34 Tryz.sizeOf9 Tryz.zeroValue9 rfl rfl rfl rfl (bp_cons (ev_cs' (l := []) rfl) (as_str _) (bp_cons (ev_cs' (l := [112, 114, 101, 112, 97, 114, 101]) rfl) (as_str _) (bp_cons (ev_cs' (l := [100, 101, 99, 105, 100, 101]) rfl) (as_str _) (bp_cons (ev_cs' (l := [100, 111, 110, 101]) rfl) (as_str _) (bp_cons (ev_cs' (l := [102, 108, 111, 111, 114]) rfl) (as_str _) bp_nil))))) rfl rfl) ?_
  refine sq_plain rfl rfl rfl (w_assign rfl (ev_tmp rfl)) ?_
  refine sq_nil ?_
  refine awp_ret ?_
  exact retR rfl (rv_tmp' rfl (by first | rfl | (refine congrArg AV.bool ?_; simp_all; done)))
theorem l4Words_spec : FSpec Tryz.prog 85 [] (AV.list 1 (rcWs.map fun s => [AV.str s])) := by
  refine spec_of_awp Tryz.func85 rfl Tryz.ntmps85 rfl ?_
  refine awp_seq ?_
  refine awp_region ?_
  refine sq_plain rfl rfl rfl (w_assign rfl (ev_cnil (sz := 1))) ?_
  refine sq_nil ?_
  refine awp_seq ?_
  refine awp_region ?_
  refine sq_plain rfl rfl rfl (w_bslice rfl Tryz.underlying34 Tryz.sizeOf9 Tryz.zeroValue9 rfl rfl rfl rfl (bp_cons (ev_cs' (l := []) rfl) (as_str _) (bp_cons (ev_cs' (l := [112, 114, 101, 112, 97, 114, 101]) rfl) (as_str _) (bp_cons (ev_cs' (l := [100, 101, 99, 105, 100, 101]) rfl) (as_str _) (bp_cons (ev_cs' (l := [100, 111, 110, 101]) rfl) (as_str _) (bp_cons (ev_cs' (l := [102, 108, 111, 111, 114]) rfl) (as_str _) bp_nil))))) rfl rfl) ?_
  refine sq_plain rfl rfl rfl (w_assign rfl (ev_tmp rfl)) ?_
  refine sq_nil ?_
  refine awp_ret ?_
  exact retR rfl (rv_tmp' rfl (by first | rfl | (refine congrArg AV.bool ?_; simp_all; done)))
theorem recText_spec (r : TRec) (hg : goodRec r = true) : FSpec Tryz.prog 58 [AV.wt tabW (AV.agg r.cs)] (AV.str (recT r)) := by
  have h := goodR hg
  have k1 := h.kind; have k2 := h.txn; have k3 := h.time; have k4 := h.lead
  have k5 := h.writes.1; have k6 := h.reads.1
  have n1 := itoa_len6 (n := r.Txn) (by omega)
  have n2 := itoa_len6 (n := r.Time) (by omega)
  have n3 := itoa_len6 (n := r.Lead) (by omega)
  have n4 := rcW_len h.kind
  refine spec_of_awp Tryz.func58 rfl Tryz.ntmps58 rfl ?_
  refine AWP.le (le_tab (t := 0) rfl) ?_
  refine awp_seq ?_
  refine awp_region ?_
  refine sq_box rfl rfl rfl rfl (ev_tmp rfl) ?_
  intro b1
  refine sq_plain rfl rfl rfl (w_assign rfl (ev_cs' (l := []) rfl)) ?_
  refine sq_nil ?_
  refine awp_seq ?_
  refine awp_region_any (by kernel_rfl) (by kernel_rfl) rfl ?_
  refine ch_plain rfl rfl (w_call rfl Tryz.call70 rfl (recWords_spec) evl_nil) ?_
  refine ch_plain rfl rfl (w_fldBn 0 rfl Tryz.underlying37 rfl Tryz.sizeOf3 (ev_tmp rfl) rfl) ?_
  refine ch_plain rfl rfl (w_loadB1 0 rfl (ev_tmp rfl) rfl Tryz.isAgg3 rfl) ?_
  refine ch_plain rfl rfl (w_idx rfl Tryz.underlying34 Tryz.sizeOf9 (ev_tmp rfl) (ev_tmp rfl) (by omega) (rcW_get h.kind)) ?_
  refine ch_plain rfl rfl (w_loadE1 rfl (ev_tmp rfl) Tryz.isAgg9 rfl) ?_
  refine ch_plain rfl rfl (w_assign rfl (ev_tmp rfl)) ?_
  refine ch_nil ?_
  refine awp_seq ?_
  refine awp_seq ?_
  refine awp_region ?_
  refine sq_plain rfl rfl rfl (w_fldBn 0 rfl Tryz.underlying37 rfl Tryz.sizeOf3 (ev_tmp rfl) rfl) ?_
  refine sq_plain rfl rfl rfl (w_loadB1 0 rfl (ev_tmp rfl) rfl Tryz.isAgg3 rfl) ?_
  refine sq_plain rfl rfl rfl (w_neq rfl (ev_tmp rfl) ev_ci) ?_
  refine sq_nil ?_
  refine awp_cond (ev_tmp rfl) ?_ ?_
  · intro h15
    have k15 := ne_of_bne h15; try simp only [List.length_map] at k15
    refine awp_region ?_
    refine sq_plain rfl rfl rfl (w_move rfl (ev_tmp rfl)) ?_
    refine sq_plain rfl rfl rfl (w_fldBn 1 rfl Tryz.underlying37 rfl Tryz.sizeOf3 (ev_tmp rfl) rfl) ?_
    refine sq_plain rfl rfl rfl (w_loadB1 0 rfl (ev_tmp rfl) rfl Tryz.isAgg3 rfl) ?_
    refine sq_plain rfl rfl rfl (w_callB rfl Tryz.call96 rfl (itoa_spec r.Txn (by omega)) (flat_str _) (evlb_cons (evb_wt 1 rfl (by first | exact fun _ h => h | exact fun _ h => h.1) (evb (ev_tmp rfl))) evlb_nil)) ?_
    refine sq_plain rfl rfl rfl (w_cat rfl (ev_cs' (l := [32]) rfl) (ev_tmp rfl) (by first | omega | (simp only [List.length_append, List.length_take, List.length_drop, List.length_cons, List.length_nil]; omega))) ?_
    refine sq_plain rfl rfl rfl (w_cat rfl (ev_tmp rfl) (ev_tmp rfl) (by first | omega | (simp only [List.length_append, List.length_take, List.length_drop, List.length_cons, List.length_nil]; omega))) ?_
    refine sq_plain rfl rfl rfl (w_assign rfl (ev_tmp rfl)) ?_
    refine sq_nil ?_
    refine awp_seq ?_
    refine awp_seq ?_
    refine awp_region ?_
    refine sq_plain rfl rfl rfl (w_fldBn 0 rfl Tryz.underlying37 rfl Tryz.sizeOf3 (ev_tmp rfl) rfl) ?_
    refine sq_plain rfl rfl rfl (w_loadB1 0 rfl (ev_tmp rfl) rfl Tryz.isAgg3 rfl) ?_
    refine sq_plain rfl rfl rfl (w_eql rfl (ev_tmp rfl) ev_ci) ?_
    refine sq_plain rfl rfl rfl (w_move rfl (ev_tmp rfl)) ?_
    refine sq_grd rfl rfl (guard_f rfl rfl rfl) (fun hc => w_fldBn 0 rfl Tryz.underlying37 rfl Tryz.sizeOf3 (ev_tmp rfl) rfl) ?_
    refine sq_grd rfl rfl (guard_f rfl rfl rfl) (fun hc => w_loadB1 0 rfl (ev_whn rfl hc) rfl Tryz.isAgg3 rfl) ?_
    refine sq_grd rfl rfl (guard_f rfl rfl rfl) (fun hc => w_eql rfl (ev_whn rfl hc) ev_ci) ?_
    refine sq_plain rfl rfl rfl (w_or rfl (ev_tmp rfl) (evif_w rfl)) ?_
    refine sq_plain rfl rfl rfl (w_move rfl (ev_tmp rfl)) ?_
    refine sq_grd rfl rfl (guard_f rfl rfl rfl) (fun hc => w_fldBn 6 rfl Tryz.underlying37 rfl Tryz.sizeOf4 (ev_tmp rfl) rfl) ?_
    refine sq_grd rfl rfl (guard_f rfl rfl rfl) (fun hc => w_loadB1 0 rfl (ev_whn rfl hc) rfl Tryz.isAgg4 rfl) ?_
    refine sq_plain rfl rfl rfl (w_or rfl (ev_tmp rfl) (evif_w rfl)) ?_
    refine sq_nil ?_
    refine awp_cond (ev_tmp rfl) ?_ ?_
    · intro h33
      have htd : timedR r = true := h33
      refine awp_region ?_
      refine sq_plain rfl rfl rfl (w_move rfl (ev_tmp rfl)) ?_
      refine sq_plain rfl rfl rfl (w_fldBn 2 rfl Tryz.underlying37 rfl Tryz.sizeOf3 (ev_tmp rfl) rfl) ?_
      refine sq_plain rfl rfl rfl (w_loadB1 0 rfl (ev_tmp rfl) rfl Tryz.isAgg3 rfl) ?_
      refine sq_plain rfl rfl rfl (w_callB rfl Tryz.call96 rfl (itoa_spec r.Time (by omega)) (flat_str _) (evlb_cons (evb_wt 1 rfl (by first | exact fun _ h => h | exact fun _ h => h.1) (evb (ev_tmp rfl))) evlb_nil)) ?_
      refine sq_plain rfl rfl rfl (w_cat rfl (ev_cs' (l := [32, 64]) rfl) (ev_tmp rfl) (by first | omega | (simp only [List.length_append, List.length_take, List.length_drop, List.length_cons, List.length_nil]; omega))) ?_
      refine sq_plain rfl rfl rfl (w_cat rfl (ev_tmp rfl) (ev_tmp rfl) (by first | omega | (simp only [List.length_append, List.length_take, List.length_drop, List.length_cons, List.length_nil]; omega))) ?_
      refine sq_plain rfl rfl rfl (w_assign rfl (ev_tmp rfl)) ?_
      refine sq_nil ?_
      refine awp_seq ?_
      refine awp_seq ?_
      refine awp_region ?_
      refine sq_plain rfl rfl rfl (w_fldBn 0 rfl Tryz.underlying37 rfl Tryz.sizeOf3 (ev_tmp rfl) rfl) ?_
      refine sq_plain rfl rfl rfl (w_loadB1 0 rfl (ev_tmp rfl) rfl Tryz.isAgg3 rfl) ?_
      refine sq_plain rfl rfl rfl (w_eql rfl (ev_tmp rfl) ev_ci) ?_
      refine sq_nil ?_
      refine awp_cond (ev_tmp rfl) ?_ ?_
      · intro h44
        have k44 := eq_of_beqt h44; try simp only [List.length_map] at k44
        refine awp_region ?_
        refine sq_plain rfl rfl rfl (w_move rfl (ev_tmp rfl)) ?_
        refine sq_plain rfl rfl rfl (w_fldBn 3 rfl Tryz.underlying37 rfl Tryz.sizeOf3 (ev_tmp rfl) rfl) ?_
        refine sq_plain rfl rfl rfl (w_loadB1 0 rfl (ev_tmp rfl) rfl Tryz.isAgg3 rfl) ?_
        refine sq_plain rfl rfl rfl (w_callB rfl Tryz.call96 rfl (itoa_spec r.Lead (by omega)) (flat_str _) (evlb_cons (evb_wt 1 rfl (by first | exact fun _ h => h | exact fun _ h => h.1) (evb (ev_tmp rfl))) evlb_nil)) ?_
        refine sq_plain rfl rfl rfl (w_cat rfl (ev_cs' (l := [32, 62]) rfl) (ev_tmp rfl) (by first | omega | (simp only [List.length_append, List.length_take, List.length_drop, List.length_cons, List.length_nil]; omega))) ?_
        refine sq_plain rfl rfl rfl (w_cat rfl (ev_tmp rfl) (ev_tmp rfl) (by first | omega | (simp only [List.length_append, List.length_take, List.length_drop, List.length_cons, List.length_nil]; omega))) ?_
        refine sq_plain rfl rfl rfl (w_assign rfl (ev_tmp rfl)) ?_
        refine sq_nil ?_
        refine awp_seq ?_
        refine awp_seq ?_
        refine awp_region ?_
        refine sq_plain rfl rfl rfl (w_fldBn 4 rfl Tryz.underlying37 rfl Tryz.sizeOf34 (ev_tmp rfl) rfl) ?_
        refine sq_plain rfl rfl rfl (w_loadB1 0 rfl (ev_tmp rfl) rfl Tryz.isAgg34 rfl) ?_
        refine sq_plain rfl rfl rfl (w_llen rfl Tryz.underlying34 (ev_tmp rfl)) ?_
        refine sq_plain rfl rfl rfl (w_move rfl ev_ci) ?_
        refine sq_nil ?_
        refine awp_block ?_
        refine awp_loop_i [(1, _), (2, _), (52, _), (53, _)] _ (fun (i : Nat) => i ≤ r.Reads.length) (fun (i : Nat) => []) (fun (i : Nat) => [(3, AV.str (preR r i)), (54, AV.int i)]) (fun (i : Nat) => r.Reads.length - i) (0) ?_ (le_env ⟨congrArg (fun z => some (AV.str z)) (by first | (exfalso; omega) | (rw [preR_zero]; unfold tkA tkT tkM tkL; rw [htd]; simp [spc, *]; done)), rfl, rfl, rfl, rfl, rfl, trivial⟩) ?_
        · exact Nat.zero_le _
        intro i hinv
        refine awp_seq ?_
        refine awp_region ?_
        refine sq_plain rfl rfl rfl (w_lss rfl (ev_tmp rfl) (ev_tmp rfl)) ?_
        refine sq_nil ?_
        refine awp_seq ?_
        refine awp_cond (ev_tmp rfl) ?_ ?_
        · intro h55
          have k55 := of_decide_eq_true h55; try simp only [List.length_map] at k55
          have hlt : i < r.Reads.length := by omega
          obtain ⟨x, hx⟩ := get_some hlt
          have hxk := l3KeyR_len (h.reads.2 x (List.mem_of_getElem? hx))
          have hpl := preR_len h i
          refine awp_skip ?_
          refine awp_seq ?_
          refine awp_block ?_
          refine awp_seq ?_
          refine awp_region ?_
          refine sq_plain rfl rfl rfl (w_idxm rfl Tryz.underlying34 Tryz.sizeOf9 (ev_tmp rfl) (ev_tmp rfl) hx (by first | omega | ((try simp only [List.length_map, List.length_take, List.length_cons, List.length_nil, chunks_len, szR] at *); omega) | (have hc2 := hc; simp only [Bool.and_eq_true, Bool.or_eq_true, Bool.or_eq_false_iff, Bool.and_eq_false_iff, Bool.not_eq_true', Bool.not_eq_false', decide_eq_true_eq, decide_eq_false_iff_not, beq_iff_eq, bne_iff_ne, List.length_map, List.length_take] at hc2; omega))) ?_
          refine sq_plain rfl rfl rfl (w_loadE1 rfl (ev_tmp rfl) Tryz.isAgg9 rfl) ?_
          refine sq_plain rfl rfl rfl (w_assign rfl (ev_tmp rfl)) ?_
          refine sq_nil ?_
          refine awp_region ?_
          refine sq_plain rfl rfl rfl (w_move rfl (ev_tmp rfl)) ?_
          refine sq_plain rfl rfl rfl (w_move rfl (ev_tmp rfl)) ?_
          refine sq_plain rfl rfl rfl (w_cat rfl (ev_cs' (l := [32, 63]) rfl) (ev_tmp rfl) (by first | omega | (simp only [List.length_append, List.length_take, List.length_drop, List.length_cons, List.length_nil]; omega))) ?_
          refine sq_plain rfl rfl rfl (w_cat rfl (ev_tmp rfl) (ev_tmp rfl) (by first | omega | (simp only [List.length_append, List.length_take, List.length_drop, List.length_cons, List.length_nil]; omega))) ?_
          refine sq_plain rfl rfl rfl (w_assign rfl (ev_tmp rfl)) ?_
          refine sq_nil ?_
          refine awp_region ?_
          refine sq_plain rfl rfl rfl (w_addi rfl (ev_tmp rfl) ev_ci (by first | omega | ((try simp only [List.length_map, List.length_take, List.length_cons, List.length_nil, chunks_len, szR] at *); omega) | (have hc2 := hc; simp only [Bool.and_eq_true, Bool.or_eq_true, Bool.or_eq_false_iff, Bool.and_eq_false_iff, Bool.not_eq_true', Bool.not_eq_false', decide_eq_true_eq, decide_eq_false_iff_not, beq_iff_eq, bne_iff_ne, List.length_map, List.length_take] at hc2; omega))) ?_
          refine sq_plain rfl rfl rfl (w_move rfl (ev_tmp rfl)) ?_
          refine sq_nil ?_
          refine round_end i (i + 1) ?_ ?_ (le_env ⟨congrArg (fun z => some (AV.str z)) (preR_next hx).symm, rfl, rfl, rfl, rfl, rfl, trivial⟩)
          · omega
          · omega
        · intro h55
          have k55 := of_decide_eq_false h55; try simp only [List.length_map] at k55
          have hge : i = r.Reads.length := by omega
          rw [hge]
          refine awp_exit ?_
          refine awp_seq ?_
          refine awp_seq ?_
          refine awp_region ?_
          refine sq_plain rfl rfl rfl (w_fldBn 5 rfl Tryz.underlying37 rfl Tryz.sizeOf35 (ev_tmp rfl) rfl) ?_
          refine sq_plain rfl rfl rfl (w_loadB1 0 rfl (ev_tmp rfl) rfl Tryz.isAgg35 rfl) ?_
          refine sq_plain rfl rfl rfl (w_llen rfl Tryz.underlying35 (ev_tmp rfl)) ?_
          refine sq_plain rfl rfl rfl (w_move rfl ev_ci) ?_
          refine sq_nil ?_
          refine awp_block ?_
          refine awp_loop_i [(2, _), (64, _), (65, _)] _ (fun (j : Nat) => j ≤ r.Writes.length) (fun (j : Nat) => []) (fun (j : Nat) => [(3, AV.str (preW r j)), (66, AV.int j)]) (fun (j : Nat) => r.Writes.length - j) (0) ?_ (le_env ⟨congrArg (fun z => some (AV.str z)) (preW_zero r).symm, rfl, rfl, rfl, rfl, trivial⟩) ?_
          · exact Nat.zero_le _
          intro j hinv
          refine awp_seq ?_
          refine awp_region ?_
          refine sq_plain rfl rfl rfl (w_lss rfl (ev_tmp rfl) (ev_tmp rfl)) ?_
          refine sq_nil ?_
          refine awp_seq ?_
          refine awp_cond (ev_tmp rfl) ?_ ?_
          · intro h67
            have k67 := of_decide_eq_true h67; try simp only [List.length_map] at k67
            have hlt : j < r.Writes.length := by omega
            obtain ⟨x, hx⟩ := get_some hlt
            have hxg := h.writes.2 x (List.mem_of_getElem? hx)
            have hxk := l3KeyR_len hxg.1
            have hxv := l3ValR_len hxg.2.1
            have hpl := preW_len h j
            refine awp_skip ?_
            refine awp_seq ?_
            refine awp_block ?_
            refine awp_seq ?_
            refine awp_region ?_
            refine sq_plain rfl rfl rfl (w_idxm rfl Tryz.underlying35 Tryz.sizeOf79 (ev_tmp rfl) (ev_tmp rfl) hx (by first | omega | ((try simp only [List.length_map, List.length_take, List.length_cons, List.length_nil, chunks_len, szR] at *); omega) | (have hc2 := hc; simp only [Bool.and_eq_true, Bool.or_eq_true, Bool.or_eq_false_iff, Bool.and_eq_false_iff, Bool.not_eq_true', Bool.not_eq_false', decide_eq_true_eq, decide_eq_false_iff_not, beq_iff_eq, bne_iff_ne, List.length_map, List.length_take] at hc2; omega))) ?_
            refine sq_plain rfl rfl rfl (w_loadE rfl (ev_tmp rfl) Tryz.isAgg79 Tryz.sizeOf79) ?_
            refine sq_alloc rfl rfl rfl rfl Tryz.zeroValue79 rfl ?_
            intro b7
            refine sq_storeB0 0 rfl rfl rfl (ev_tmp rfl) (ev_tmp rfl) (as_agg _) rfl Tryz.sizeOf79 rfl ?_
            refine sq_nil ?_
            refine awp_seq ?_
            refine awp_region ?_
            refine sq_plain rfl rfl rfl (w_fldBn 2 rfl Tryz.underlying79 rfl Tryz.sizeOf4 (ev_tmp rfl) rfl) ?_
            refine sq_plain rfl rfl rfl (w_loadB1 0 rfl (ev_tmp rfl) rfl Tryz.isAgg4 rfl) ?_
            refine sq_nil ?_
            refine awp_cond (ev_tmp rfl) ?_ ?_
            · intro h71
              refine awp_region ?_
              refine sq_plain rfl rfl rfl (w_move rfl (ev_tmp rfl)) ?_
              refine sq_plain rfl rfl rfl (w_fldBn 0 rfl Tryz.underlying79 rfl Tryz.sizeOf9 (ev_tmp rfl) rfl) ?_
              refine sq_plain rfl rfl rfl (w_loadB1 0 rfl (ev_tmp rfl) rfl Tryz.isAgg9 rfl) ?_
              refine sq_plain rfl rfl rfl (w_cat rfl (ev_cs' (l := [32, 33]) rfl) (ev_tmp rfl) (by first | omega | (simp only [List.length_append, List.length_take, List.length_drop, List.length_cons, List.length_nil]; omega))) ?_
              refine sq_plain rfl rfl rfl (w_cat rfl (ev_tmp rfl) (ev_cs' (l := [45]) rfl) (by first | omega | (simp only [List.length_append, List.length_take, List.length_drop, List.length_cons, List.length_nil]; omega))) ?_
              refine sq_plain rfl rfl rfl (w_cat rfl (ev_tmp rfl) (ev_tmp rfl) (by first | omega | (simp only [List.length_append, List.length_take, List.length_drop, List.length_cons, List.length_nil]; omega))) ?_
              refine sq_plain rfl rfl rfl (w_assign rfl (ev_tmp rfl)) ?_
              refine sq_nil ?_
              refine awp_region ?_
              refine sq_plain rfl rfl rfl (w_addi rfl (ev_tmp rfl) ev_ci (by first | omega | ((try simp only [List.length_map, List.length_take, List.length_cons, List.length_nil, chunks_len, szR] at *); omega) | (have hc2 := hc; simp only [Bool.and_eq_true, Bool.or_eq_true, Bool.or_eq_false_iff, Bool.and_eq_false_iff, Bool.not_eq_true', Bool.not_eq_false', decide_eq_true_eq, decide_eq_false_iff_not, beq_iff_eq, bne_iff_ne, List.length_map, List.length_take] at hc2; omega))) ?_
              refine sq_plain rfl rfl rfl (w_move rfl (ev_tmp rfl)) ?_
              refine sq_nil ?_
              refine round_end j (j + 1) ?_ ?_ (le_drop 1 ⟨congrArg (fun z => some (AV.str z)) (by first | exact (preW_nextT hx h71).symm | exact (preW_nextF hx h71).symm), rfl, rfl, rfl, rfl, trivial⟩)
              · omega
              · omega
            · intro h71
              refine awp_region ?_
              refine sq_plain rfl rfl rfl (w_move rfl (ev_tmp rfl)) ?_
              refine sq_plain rfl rfl rfl (w_fldBn 0 rfl Tryz.underlying79 rfl Tryz.sizeOf9 (ev_tmp rfl) rfl) ?_
              refine sq_plain rfl rfl rfl (w_loadB1 0 rfl (ev_tmp rfl) rfl Tryz.isAgg9 rfl) ?_
              refine sq_plain rfl rfl rfl (w_cat rfl (ev_cs' (l := [32, 33]) rfl) (ev_tmp rfl) (by first | omega | (simp only [List.length_append, List.length_take, List.length_drop, List.length_cons, List.length_nil]; omega))) ?_
              refine sq_plain rfl rfl rfl (w_cat rfl (ev_tmp rfl) (ev_cs' (l := [61]) rfl) (by first | omega | (simp only [List.length_append, List.length_take, List.length_drop, List.length_cons, List.length_nil]; omega))) ?_
              refine sq_plain rfl rfl rfl (w_fldBn 1 rfl Tryz.underlying79 rfl Tryz.sizeOf9 (ev_tmp rfl) rfl) ?_
              refine sq_plain rfl rfl rfl (w_loadB1 0 rfl (ev_tmp rfl) rfl Tryz.isAgg9 rfl) ?_
              refine sq_plain rfl rfl rfl (w_cat rfl (ev_tmp rfl) (ev_tmp rfl) (by first | omega | (simp only [List.length_append, List.length_take, List.length_drop, List.length_cons, List.length_nil]; omega))) ?_
              refine sq_plain rfl rfl rfl (w_cat rfl (ev_tmp rfl) (ev_tmp rfl) (by first | omega | (simp only [List.length_append, List.length_take, List.length_drop, List.length_cons, List.length_nil]; omega))) ?_
              refine sq_plain rfl rfl rfl (w_assign rfl (ev_tmp rfl)) ?_
              refine sq_nil ?_
              refine awp_region ?_
              refine sq_plain rfl rfl rfl (w_addi rfl (ev_tmp rfl) ev_ci (by first | omega | ((try simp only [List.length_map, List.length_take, List.length_cons, List.length_nil, chunks_len, szR] at *); omega) | (have hc2 := hc; simp only [Bool.and_eq_true, Bool.or_eq_true, Bool.or_eq_false_iff, Bool.and_eq_false_iff, Bool.not_eq_true', Bool.not_eq_false', decide_eq_true_eq, decide_eq_false_iff_not, beq_iff_eq, bne_iff_ne, List.length_map, List.length_take] at hc2; omega))) ?_
              refine sq_plain rfl rfl rfl (w_move rfl (ev_tmp rfl)) ?_
              refine sq_nil ?_
              refine round_end j (j + 1) ?_ ?_ (le_drop 1 ⟨congrArg (fun z => some (AV.str z)) (by first | exact (preW_nextT hx h71).symm | exact (preW_nextF hx h71).symm), rfl, rfl, rfl, rfl, trivial⟩)
              · omega
              · omega
          · intro h67
            have k67 := of_decide_eq_false h67; try simp only [List.length_map] at k67
            have hge : j = r.Writes.length := by omega
            rw [hge, preW_all]
            refine awp_exit ?_
            refine awp_seq ?_
            refine awp_region ?_
            refine sq_plain rfl rfl rfl (w_move rfl (ev_tmp rfl)) ?_
            refine sq_plain rfl rfl rfl (w_assign rfl (ev_tmp rfl)) ?_
            refine sq_nil ?_
            refine awp_ret ?_
            exact retR rfl (rv_tmp' rfl (by rfl))
      · intro h44
        have k44 := ne_of_beqf h44; try simp only [List.length_map] at k44
        refine awp_skip ?_
        refine awp_seq ?_
        refine awp_seq ?_
        refine awp_region ?_
        refine sq_plain rfl rfl rfl (w_fldBn 4 rfl Tryz.underlying37 rfl Tryz.sizeOf34 (ev_tmp rfl) rfl) ?_
        refine sq_plain rfl rfl rfl (w_loadB1 0 rfl (ev_tmp rfl) rfl Tryz.isAgg34 rfl) ?_
        refine sq_plain rfl rfl rfl (w_llen rfl Tryz.underlying34 (ev_tmp rfl)) ?_
        refine sq_plain rfl rfl rfl (w_move rfl ev_ci) ?_
        refine sq_nil ?_
        refine awp_block ?_
        refine awp_loop_i [(1, _), (2, _), (52, _), (53, _)] _ (fun (i : Nat) => i ≤ r.Reads.length) (fun (i : Nat) => []) (fun (i : Nat) => [(3, AV.str (preR r i)), (54, AV.int i)]) (fun (i : Nat) => r.Reads.length - i) (0) ?_ (le_env ⟨congrArg (fun z => some (AV.str z)) (by first | (exfalso; omega) | (rw [preR_zero]; unfold tkA tkT tkM tkL; rw [htd]; simp [spc, *]; done)), rfl, rfl, rfl, rfl, rfl, trivial⟩) ?_
        · exact Nat.zero_le _
        intro i hinv
        refine awp_seq ?_
        refine awp_region ?_
        refine sq_plain rfl rfl rfl (w_lss rfl (ev_tmp rfl) (ev_tmp rfl)) ?_
        refine sq_nil ?_
        refine awp_seq ?_
        refine awp_cond (ev_tmp rfl) ?_ ?_
        · intro h55
          have k55 := of_decide_eq_true h55; try simp only [List.length_map] at k55
          have hlt : i < r.Reads.length := by omega
          obtain ⟨x, hx⟩ := get_some hlt
          have hxk := l3KeyR_len (h.reads.2 x (List.mem_of_getElem? hx))
          have hpl := preR_len h i
          refine awp_skip ?_
          refine awp_seq ?_
          refine awp_block ?_
          refine awp_seq ?_
          refine awp_region ?_
          refine sq_plain rfl rfl rfl (w_idxm rfl Tryz.underlying34 Tryz.sizeOf9 (ev_tmp rfl) (ev_tmp rfl) hx (by first | omega | ((try simp only [List.length_map, List.length_take, List.length_cons, List.length_nil, chunks_len, szR] at *); omega) | (have hc2 := hc; simp only [Bool.and_eq_true, Bool.or_eq_true, Bool.or_eq_false_iff, Bool.and_eq_false_iff, Bool.not_eq_true', Bool.not_eq_false', decide_eq_true_eq, decide_eq_false_iff_not, beq_iff_eq, bne_iff_ne, List.length_map, List.length_take] at hc2; omega))) ?_
          refine sq_plain rfl rfl rfl (w_loadE1 rfl (ev_tmp rfl) Tryz.isAgg9 rfl) ?_
          refine sq_plain rfl rfl rfl (w_assign rfl (ev_tmp rfl)) ?_
          refine sq_nil ?_
          refine awp_region ?_
          refine sq_plain rfl rfl rfl (w_move rfl (ev_tmp rfl)) ?_
          refine sq_plain rfl rfl rfl (w_move rfl (ev_tmp rfl)) ?_
          refine sq_plain rfl rfl rfl (w_cat rfl (ev_cs' (l := [32, 63]) rfl) (ev_tmp rfl) (by first | omega | (simp only [List.length_append, List.length_take, List.length_drop, List.length_cons, List.length_nil]; omega))) ?_
          refine sq_plain rfl rfl rfl (w_cat rfl (ev_tmp rfl) (ev_tmp rfl) (by first | omega | (simp only [List.length_append, List.length_take, List.length_drop, List.length_cons, List.length_nil]; omega))) ?_
          refine sq_plain rfl rfl rfl (w_assign rfl (ev_tmp rfl)) ?_
          refine sq_nil ?_
          refine awp_region ?_
          refine sq_plain rfl rfl rfl (w_addi rfl (ev_tmp rfl) ev_ci (by first | omega | ((try simp only [List.length_map, List.length_take, List.length_cons, List.length_nil, chunks_len, szR] at *); omega) | (have hc2 := hc; simp only [Bool.and_eq_true, Bool.or_eq_true, Bool.or_eq_false_iff, Bool.and_eq_false_iff, Bool.not_eq_true', Bool.not_eq_false', decide_eq_true_eq, decide_eq_false_iff_not, beq_iff_eq, bne_iff_ne, List.length_map, List.length_take] at hc2; omega))) ?_
          refine sq_plain rfl rfl rfl (w_move rfl (ev_tmp rfl)) ?_
          refine sq_nil ?_
          refine round_end i (i + 1) ?_ ?_ (le_env ⟨congrArg (fun z => some (AV.str z)) (preR_next hx).symm, rfl, rfl, rfl, rfl, rfl, trivial⟩)
          · omega
          · omega
        · intro h55
          have k55 := of_decide_eq_false h55; try simp only [List.length_map] at k55
          have hge : i = r.Reads.length := by omega
          rw [hge]
          refine awp_exit ?_
          refine awp_seq ?_
          refine awp_seq ?_
          refine awp_region ?_
          refine sq_plain rfl rfl rfl (w_fldBn 5 rfl Tryz.underlying37 rfl Tryz.sizeOf35 (ev_tmp rfl) rfl) ?_
          refine sq_plain rfl rfl rfl (w_loadB1 0 rfl (ev_tmp rfl) rfl Tryz.isAgg35 rfl) ?_
          refine sq_plain rfl rfl rfl (w_llen rfl Tryz.underlying35 (ev_tmp rfl)) ?_
          refine sq_plain rfl rfl rfl (w_move rfl ev_ci) ?_
          refine sq_nil ?_
          refine awp_block ?_
          refine awp_loop_i [(2, _), (64, _), (65, _)] _ (fun (j : Nat) => j ≤ r.Writes.length) (fun (j : Nat) => []) (fun (j : Nat) => [(3, AV.str (preW r j)), (66, AV.int j)]) (fun (j : Nat) => r.Writes.length - j) (0) ?_ (le_env ⟨congrArg (fun z => some (AV.str z)) (preW_zero r).symm, rfl, rfl, rfl, rfl, trivial⟩) ?_
          · exact Nat.zero_le _
          intro j hinv
          refine awp_seq ?_
          refine awp_region ?_
          refine sq_plain rfl rfl rfl (w_lss rfl (ev_tmp rfl) (ev_tmp rfl)) ?_
          refine sq_nil ?_
          refine awp_seq ?_
          refine awp_cond (ev_tmp rfl) ?_ ?_
          · intro h67
            have k67 := of_decide_eq_true h67; try simp only [List.length_map] at k67
            have hlt : j < r.Writes.length := by omega
            obtain ⟨x, hx⟩ := get_some hlt
            have hxg := h.writes.2 x (List.mem_of_getElem? hx)
            have hxk := l3KeyR_len hxg.1
            have hxv := l3ValR_len hxg.2.1
            have hpl := preW_len h j
            refine awp_skip ?_
            refine awp_seq ?_
            refine awp_block ?_
            refine awp_seq ?_
            refine awp_region ?_
            refine sq_plain rfl rfl rfl (w_idxm rfl Tryz.underlying35 Tryz.sizeOf79 (ev_tmp rfl) (ev_tmp rfl) hx (by first | omega | ((try simp only [List.length_map, List.length_take, List.length_cons, List.length_nil, chunks_len, szR] at *); omega) | (have hc2 := hc; simp only [Bool.and_eq_true, Bool.or_eq_true, Bool.or_eq_false_iff, Bool.and_eq_false_iff, Bool.not_eq_true', Bool.not_eq_false', decide_eq_true_eq, decide_eq_false_iff_not, beq_iff_eq, bne_iff_ne, List.length_map, List.length_take] at hc2; omega))) ?_
            refine sq_plain rfl rfl rfl (w_loadE rfl (ev_tmp rfl) Tryz.isAgg79 Tryz.sizeOf79) ?_
            refine sq_alloc rfl rfl rfl rfl Tryz.zeroValue79 rfl ?_
            intro b7
            refine sq_storeB0 0 rfl rfl rfl (ev_tmp rfl) (ev_tmp rfl) (as_agg _) rfl Tryz.sizeOf79 rfl ?_
            refine sq_nil ?_
            refine awp_seq ?_
            refine awp_region ?_
            refine sq_plain rfl rfl rfl (w_fldBn 2 rfl Tryz.underlying79 rfl Tryz.sizeOf4 (ev_tmp rfl) rfl) ?_
            refine sq_plain rfl rfl rfl (w_loadB1 0 rfl (ev_tmp rfl) rfl Tryz.isAgg4 rfl) ?_
            refine sq_nil ?_
            refine awp_cond (ev_tmp rfl) ?_ ?_
            · intro h71
              refine awp_region ?_
              refine sq_plain rfl rfl rfl (w_move rfl (ev_tmp rfl)) ?_
              refine sq_plain rfl rfl rfl (w_fldBn 0 rfl Tryz.underlying79 rfl Tryz.sizeOf9 (ev_tmp rfl) rfl) ?_
              refine sq_plain rfl rfl rfl (w_loadB1 0 rfl (ev_tmp rfl) rfl Tryz.isAgg9 rfl) ?_
              refine sq_plain rfl rfl rfl (w_cat rfl (ev_cs' (l := [32, 33]) rfl) (ev_tmp rfl) (by first | omega | (simp only [List.length_append, List.length_take, List.length_drop, List.length_cons, List.length_nil]; omega))) ?_
              refine sq_plain rfl rfl rfl (w_cat rfl (ev_tmp rfl) (ev_cs' (l := [45]) rfl) (by first | omega | (simp only [List.length_append, List.length_take, List.length_drop, List.length_cons, List.length_nil]; omega))) ?_
              refine sq_plain rfl rfl rfl (w_cat rfl (ev_tmp rfl) (ev_tmp rfl) (by first | omega | (simp only [List.length_append, List.length_take, List.length_drop, List.length_cons, List.length_nil]; omega))) ?_
              refine sq_plain rfl rfl rfl (w_assign rfl (ev_tmp rfl)) ?_
              refine sq_nil ?_
              refine awp_region ?_
              refine sq_plain rfl rfl rfl (w_addi rfl (ev_tmp rfl) ev_ci (by first | omega | ((try simp only [List.length_map, List.length_take, List.length_cons, List.length_nil, chunks_len, szR] at *); omega) | (have hc2 := hc; simp only [Bool.and_eq_true, Bool.or_eq_true, Bool.or_eq_false_iff, Bool.and_eq_false_iff, Bool.not_eq_true', Bool.not_eq_false', decide_eq_true_eq, decide_eq_false_iff_not, beq_iff_eq, bne_iff_ne, List.length_map, List.length_take] at hc2; omega))) ?_
              refine sq_plain rfl rfl rfl (w_move rfl (ev_tmp rfl)) ?_
              refine sq_nil ?_
              refine round_end j (j + 1) ?_ ?_ (le_drop 1 ⟨congrArg (fun z => some (AV.str z)) (by first | exact (preW_nextT hx h71).symm | exact (preW_nextF hx h71).symm), rfl, rfl, rfl, rfl, trivial⟩)
              · omega
              · omega
            · intro h71
              refine awp_region ?_
              refine sq_plain rfl rfl rfl (w_move rfl (ev_tmp rfl)) ?_
              refine sq_plain rfl rfl rfl (w_fldBn 0 rfl Tryz.underlying79 rfl Tryz.sizeOf9 (ev_tmp rfl) rfl) ?_
              refine sq_plain rfl rfl rfl (w_loadB1 0 rfl (ev_tmp rfl) rfl Tryz.isAgg9 rfl) ?_
              refine sq_plain rfl rfl rfl (w_cat rfl (ev_cs' (l := [32, 33]) rfl) (ev_tmp rfl) (by first | omega | (simp only [List.length_append, List.length_take, List.length_drop, List.length_cons, List.length_nil]; omega))) ?_
              refine sq_plain rfl rfl rfl (w_cat rfl (ev_tmp rfl) (ev_cs' (l := [61]) rfl) (by first | omega | (simp only [List.length_append, List.length_take, List.length_drop, List.length_cons, List.length_nil]; omega))) ?_
              refine sq_plain rfl rfl rfl (w_fldBn 1 rfl Tryz.underlying79 rfl Tryz.sizeOf9 (ev_tmp rfl) rfl) ?_
              refine sq_plain rfl rfl rfl (w_loadB1 0 rfl (ev_tmp rfl) rfl Tryz.isAgg9 rfl) ?_
              refine sq_plain rfl rfl rfl (w_cat rfl (ev_tmp rfl) (ev_tmp rfl) (by first | omega | (simp only [List.length_append, List.length_take, List.length_drop, List.length_cons, List.length_nil]; omega))) ?_
              refine sq_plain rfl rfl rfl (w_cat rfl (ev_tmp rfl) (ev_tmp rfl) (by first | omega | (simp only [List.length_append, List.length_take, List.length_drop, List.length_cons, List.length_nil]; omega))) ?_
              refine sq_plain rfl rfl rfl (w_assign rfl (ev_tmp rfl)) ?_
              refine sq_nil ?_
              refine awp_region ?_
              refine sq_plain rfl rfl rfl (w_addi rfl (ev_tmp rfl) ev_ci (by first | omega | ((try simp only [List.length_map, List.length_take, List.length_cons, List.length_nil, chunks_len, szR] at *); omega) | (have hc2 := hc; simp only [Bool.and_eq_true, Bool.or_eq_true, Bool.or_eq_false_iff, Bool.and_eq_false_iff, Bool.not_eq_true', Bool.not_eq_false', decide_eq_true_eq, decide_eq_false_iff_not, beq_iff_eq, bne_iff_ne, List.length_map, List.length_take] at hc2; omega))) ?_
              refine sq_plain rfl rfl rfl (w_move rfl (ev_tmp rfl)) ?_
              refine sq_nil ?_
              refine round_end j (j + 1) ?_ ?_ (le_drop 1 ⟨congrArg (fun z => some (AV.str z)) (by first | exact (preW_nextT hx h71).symm | exact (preW_nextF hx h71).symm), rfl, rfl, rfl, rfl, trivial⟩)
              · omega
              · omega
          · intro h67
            have k67 := of_decide_eq_false h67; try simp only [List.length_map] at k67
            have hge : j = r.Writes.length := by omega
            rw [hge, preW_all]
            refine awp_exit ?_
            refine awp_seq ?_
            refine awp_region ?_
            refine sq_plain rfl rfl rfl (w_move rfl (ev_tmp rfl)) ?_
            refine sq_plain rfl rfl rfl (w_assign rfl (ev_tmp rfl)) ?_
            refine sq_nil ?_
            refine awp_ret ?_
            exact retR rfl (rv_tmp' rfl (by rfl))
    · intro h33
      have htd : timedR r = false := h33
      refine awp_region ?_
      refine sq_plain rfl rfl rfl (w_move rfl (ev_tmp rfl)) ?_
      refine sq_plain rfl rfl rfl (w_cat rfl (ev_tmp rfl) (ev_cs' (l := [32, 110, 111]) rfl) (by first | omega | (simp only [List.length_append, List.length_take, List.length_drop, List.length_cons, List.length_nil]; omega))) ?_
      refine sq_plain rfl rfl rfl (w_assign rfl (ev_tmp rfl)) ?_
      refine sq_nil ?_
      refine awp_seq ?_
      refine awp_seq ?_
      refine awp_region ?_
      refine sq_plain rfl rfl rfl (w_fldBn 0 rfl Tryz.underlying37 rfl Tryz.sizeOf3 (ev_tmp rfl) rfl) ?_
      refine sq_plain rfl rfl rfl (w_loadB1 0 rfl (ev_tmp rfl) rfl Tryz.isAgg3 rfl) ?_
      refine sq_plain rfl rfl rfl (w_eql rfl (ev_tmp rfl) ev_ci) ?_
      refine sq_nil ?_
      refine awp_cond (ev_tmp rfl) ?_ ?_
      · intro h44
        have k44 := eq_of_beqt h44; try simp only [List.length_map] at k44
        refine awp_region ?_
        refine sq_plain rfl rfl rfl (w_move rfl (ev_tmp rfl)) ?_
        refine sq_plain rfl rfl rfl (w_fldBn 3 rfl Tryz.underlying37 rfl Tryz.sizeOf3 (ev_tmp rfl) rfl) ?_
        refine sq_plain rfl rfl rfl (w_loadB1 0 rfl (ev_tmp rfl) rfl Tryz.isAgg3 rfl) ?_
        refine sq_plain rfl rfl rfl (w_callB rfl Tryz.call96 rfl (itoa_spec r.Lead (by omega)) (flat_str _) (evlb_cons (evb_wt 1 rfl (by first | exact fun _ h => h | exact fun _ h => h.1) (evb (ev_tmp rfl))) evlb_nil)) ?_
        refine sq_plain rfl rfl rfl (w_cat rfl (ev_cs' (l := [32, 62]) rfl) (ev_tmp rfl) (by first | omega | (simp only [List.length_append, List.length_take, List.length_drop, List.length_cons, List.length_nil]; omega))) ?_
        refine sq_plain rfl rfl rfl (w_cat rfl (ev_tmp rfl) (ev_tmp rfl) (by first | omega | (simp only [List.length_append, List.length_take, List.length_drop, List.length_cons, List.length_nil]; omega))) ?_
        refine sq_plain rfl rfl rfl (w_assign rfl (ev_tmp rfl)) ?_
        refine sq_nil ?_
        refine awp_seq ?_
        refine awp_seq ?_
        refine awp_region ?_
        refine sq_plain rfl rfl rfl (w_fldBn 4 rfl Tryz.underlying37 rfl Tryz.sizeOf34 (ev_tmp rfl) rfl) ?_
        refine sq_plain rfl rfl rfl (w_loadB1 0 rfl (ev_tmp rfl) rfl Tryz.isAgg34 rfl) ?_
        refine sq_plain rfl rfl rfl (w_llen rfl Tryz.underlying34 (ev_tmp rfl)) ?_
        refine sq_plain rfl rfl rfl (w_move rfl ev_ci) ?_
        refine sq_nil ?_
        refine awp_block ?_
        refine awp_loop_i [(1, _), (2, _), (52, _), (53, _)] _ (fun (i : Nat) => i ≤ r.Reads.length) (fun (i : Nat) => []) (fun (i : Nat) => [(3, AV.str (preR r i)), (54, AV.int i)]) (fun (i : Nat) => r.Reads.length - i) (0) ?_ (le_env ⟨congrArg (fun z => some (AV.str z)) (by first | (exfalso; omega) | (rw [preR_zero]; unfold tkA tkT tkM tkL; rw [htd]; simp [spc, *]; done)), rfl, rfl, rfl, rfl, rfl, trivial⟩) ?_
        · exact Nat.zero_le _
        intro i hinv
        refine awp_seq ?_
        refine awp_region ?_
        refine sq_plain rfl rfl rfl (w_lss rfl (ev_tmp rfl) (ev_tmp rfl)) ?_
        refine sq_nil ?_
        refine awp_seq ?_
        refine awp_cond (ev_tmp rfl) ?_ ?_
        · intro h55
          have k55 := of_decide_eq_true h55; try simp only [List.length_map] at k55
          have hlt : i < r.Reads.length := by omega
          obtain ⟨x, hx⟩ := get_some hlt
          have hxk := l3KeyR_len (h.reads.2 x (List.mem_of_getElem? hx))
          have hpl := preR_len h i
          refine awp_skip ?_
          refine awp_seq ?_
          refine awp_block ?_
          refine awp_seq ?_
          refine awp_region ?_
          refine sq_plain rfl rfl rfl (w_idxm rfl Tryz.underlying34 Tryz.sizeOf9 (ev_tmp rfl) (ev_tmp rfl) hx (by first | omega | ((try simp only [List.length_map, List.length_take, List.length_cons, List.length_nil, chunks_len, szR] at *); omega) | (have hc2 := hc; simp only [Bool.and_eq_true, Bool.or_eq_true, Bool.or_eq_false_iff, Bool.and_eq_false_iff, Bool.not_eq_true', Bool.not_eq_false', decide_eq_true_eq, decide_eq_false_iff_not, beq_iff_eq, bne_iff_ne, List.length_map, List.length_take] at hc2; omega))) ?_
          refine sq_plain rfl rfl rfl (w_loadE1 rfl (ev_tmp rfl) Tryz.isAgg9 rfl) ?_
          refine sq_plain rfl rfl rfl (w_assign rfl (ev_tmp rfl)) ?_
          refine sq_nil ?_
          refine awp_region ?_
          refine sq_plain rfl rfl rfl (w_move rfl (ev_tmp rfl)) ?_
          refine sq_plain rfl rfl rfl (w_move rfl (ev_tmp rfl)) ?_
          refine sq_plain rfl rfl rfl (w_cat rfl (ev_cs' (l := [32, 63]) rfl) (ev_tmp rfl) (by first | omega | (simp only [List.length_append, List.length_take, List.length_drop, List.length_cons, List.length_nil]; omega))) ?_
          refine sq_plain rfl rfl rfl (w_cat rfl (ev_tmp rfl) (ev_tmp rfl) (by first | omega | (simp only [List.length_append, List.length_take, List.length_drop, List.length_cons, List.length_nil]; omega))) ?_
          refine sq_plain rfl rfl rfl (w_assign rfl (ev_tmp rfl)) ?_
          refine sq_nil ?_
          refine awp_region ?_
          refine sq_plain rfl rfl rfl (w_addi rfl (ev_tmp rfl) ev_ci (by first | omega | ((try simp only [List.length_map, List.length_take, List.length_cons, List.length_nil, chunks_len, szR] at *); omega) | (have hc2 := hc; simp only [Bool.and_eq_true, Bool.or_eq_true, Bool.or_eq_false_iff, Bool.and_eq_false_iff, Bool.not_eq_true', Bool.not_eq_false', decide_eq_true_eq, decide_eq_false_iff_not, beq_iff_eq, bne_iff_ne, List.length_map, List.length_take] at hc2; omega))) ?_
          refine sq_plain rfl rfl rfl (w_move rfl (ev_tmp rfl)) ?_
          refine sq_nil ?_
          refine round_end i (i + 1) ?_ ?_ (le_env ⟨congrArg (fun z => some (AV.str z)) (preR_next hx).symm, rfl, rfl, rfl, rfl, rfl, trivial⟩)
          · omega
          · omega
        · intro h55
          have k55 := of_decide_eq_false h55; try simp only [List.length_map] at k55
          have hge : i = r.Reads.length := by omega
          rw [hge]
          refine awp_exit ?_
          refine awp_seq ?_
          refine awp_seq ?_
          refine awp_region ?_
          refine sq_plain rfl rfl rfl (w_fldBn 5 rfl Tryz.underlying37 rfl Tryz.sizeOf35 (ev_tmp rfl) rfl) ?_
          refine sq_plain rfl rfl rfl (w_loadB1 0 rfl (ev_tmp rfl) rfl Tryz.isAgg35 rfl) ?_
          refine sq_plain rfl rfl rfl (w_llen rfl Tryz.underlying35 (ev_tmp rfl)) ?_
          refine sq_plain rfl rfl rfl (w_move rfl ev_ci) ?_
          refine sq_nil ?_
          refine awp_block ?_
          refine awp_loop_i [(2, _), (64, _), (65, _)] _ (fun (j : Nat) => j ≤ r.Writes.length) (fun (j : Nat) => []) (fun (j : Nat) => [(3, AV.str (preW r j)), (66, AV.int j)]) (fun (j : Nat) => r.Writes.length - j) (0) ?_ (le_env ⟨congrArg (fun z => some (AV.str z)) (preW_zero r).symm, rfl, rfl, rfl, rfl, trivial⟩) ?_
          · exact Nat.zero_le _
          intro j hinv
          refine awp_seq ?_
          refine awp_region ?_
          refine sq_plain rfl rfl rfl (w_lss rfl (ev_tmp rfl) (ev_tmp rfl)) ?_
          refine sq_nil ?_
          refine awp_seq ?_
          refine awp_cond (ev_tmp rfl) ?_ ?_
          · intro h67
            have k67 := of_decide_eq_true h67; try simp only [List.length_map] at k67
            have hlt : j < r.Writes.length := by omega
            obtain ⟨x, hx⟩ := get_some hlt
            have hxg := h.writes.2 x (List.mem_of_getElem? hx)
            have hxk := l3KeyR_len hxg.1
            have hxv := l3ValR_len hxg.2.1
            have hpl := preW_len h j
            refine awp_skip ?_
            refine awp_seq ?_
            refine awp_block ?_
            refine awp_seq ?_
            refine awp_region ?_
            refine sq_plain rfl rfl rfl (w_idxm rfl Tryz.underlying35 Tryz.sizeOf79 (ev_tmp rfl) (ev_tmp rfl) hx (by first | omega | ((try simp only [List.length_map, List.length_take, List.length_cons, List.length_nil, chunks_len, szR] at *); omega) | (have hc2 := hc; simp only [Bool.and_eq_true, Bool.or_eq_true, Bool.or_eq_false_iff, Bool.and_eq_false_iff, Bool.not_eq_true', Bool.not_eq_false', decide_eq_true_eq, decide_eq_false_iff_not, beq_iff_eq, bne_iff_ne, List.length_map, List.length_take] at hc2; omega))) ?_
            refine sq_plain rfl rfl rfl (w_loadE rfl (ev_tmp rfl) Tryz.isAgg79 Tryz.sizeOf79) ?_
            refine sq_alloc rfl rfl rfl rfl Tryz.zeroValue79 rfl ?_
            intro b7
            refine sq_storeB0 0 rfl rfl rfl (ev_tmp rfl) (ev_tmp rfl) (as_agg _) rfl Tryz.sizeOf79 rfl ?_
            refine sq_nil ?_
            refine awp_seq ?_
            refine awp_region ?_
            refine sq_plain rfl rfl rfl (w_fldBn 2 rfl Tryz.underlying79 rfl Tryz.sizeOf4 (ev_tmp rfl) rfl) ?_
            refine sq_plain rfl rfl rfl (w_loadB1 0 rfl (ev_tmp rfl) rfl Tryz.isAgg4 rfl) ?_
            refine sq_nil ?_
            refine awp_cond (ev_tmp rfl) ?_ ?_
            · intro h71
              refine awp_region ?_
              refine sq_plain rfl rfl rfl (w_move rfl (ev_tmp rfl)) ?_
              refine sq_plain rfl rfl rfl (w_fldBn 0 rfl Tryz.underlying79 rfl Tryz.sizeOf9 (ev_tmp rfl) rfl) ?_
              refine sq_plain rfl rfl rfl (w_loadB1 0 rfl (ev_tmp rfl) rfl Tryz.isAgg9 rfl) ?_
              refine sq_plain rfl rfl rfl (w_cat rfl (ev_cs' (l := [32, 33]) rfl) (ev_tmp rfl) (by first | omega | (simp only [List.length_append, List.length_take, List.length_drop, List.length_cons, List.length_nil]; omega))) ?_
              refine sq_plain rfl rfl rfl (w_cat rfl (ev_tmp rfl) (ev_cs' (l := [45]) rfl) (by first | omega | (simp only [List.length_append, List.length_take, List.length_drop, List.length_cons, List.length_nil]; omega))) ?_
              refine sq_plain rfl rfl rfl (w_cat rfl (ev_tmp rfl) (ev_tmp rfl) (by first | omega | (simp only [List.length_append, List.length_take, List.length_drop, List.length_cons, List.length_nil]; omega))) ?_
              refine sq_plain rfl rfl rfl (w_assign rfl (ev_tmp rfl)) ?_
              refine sq_nil ?_
              refine awp_region ?_
              refine sq_plain rfl rfl rfl (w_addi rfl (ev_tmp rfl) ev_ci (by first | omega | ((try simp only [List.length_map, List.length_take, List.length_cons, List.length_nil, chunks_len, szR] at *); omega) | (have hc2 := hc; simp only [Bool.and_eq_true, Bool.or_eq_true, Bool.or_eq_false_iff, Bool.and_eq_false_iff, Bool.not_eq_true', Bool.not_eq_false', decide_eq_true_eq, decide_eq_false_iff_not, beq_iff_eq, bne_iff_ne, List.length_map, List.length_take] at hc2; omega))) ?_
              refine sq_plain rfl rfl rfl (w_move rfl (ev_tmp rfl)) ?_
              refine sq_nil ?_
              refine round_end j (j + 1) ?_ ?_ (le_drop 1 ⟨congrArg (fun z => some (AV.str z)) (by first | exact (preW_nextT hx h71).symm | exact (preW_nextF hx h71).symm), rfl, rfl, rfl, rfl, trivial⟩)
              · omega
              · omega
            · intro h71
              refine awp_region ?_
              refine sq_plain rfl rfl rfl (w_move rfl (ev_tmp rfl)) ?_
              refine sq_plain rfl rfl rfl (w_fldBn 0 rfl Tryz.underlying79 rfl Tryz.sizeOf9 (ev_tmp rfl) rfl) ?_
              refine sq_plain rfl rfl rfl (w_loadB1 0 rfl (ev_tmp rfl) rfl Tryz.isAgg9 rfl) ?_
              refine sq_plain rfl rfl rfl (w_cat rfl (ev_cs' (l := [32, 33]) rfl) (ev_tmp rfl) (by first | omega | (simp only [List.length_append, List.length_take, List.length_drop, List.length_cons, List.length_nil]; omega))) ?_
              refine sq_plain rfl rfl rfl (w_cat rfl (ev_tmp rfl) (ev_cs' (l := [61]) rfl) (by first | omega | (simp only [List.length_append, List.length_take, List.length_drop, List.length_cons, List.length_nil]; omega))) ?_
              refine sq_plain rfl rfl rfl (w_fldBn 1 rfl Tryz.underlying79 rfl Tryz.sizeOf9 (ev_tmp rfl) rfl) ?_
              refine sq_plain rfl rfl rfl (w_loadB1 0 rfl (ev_tmp rfl) rfl Tryz.isAgg9 rfl) ?_
              refine sq_plain rfl rfl rfl (w_cat rfl (ev_tmp rfl) (ev_tmp rfl) (by first | omega | (simp only [List.length_append, List.length_take, List.length_drop, List.length_cons, List.length_nil]; omega))) ?_
              refine sq_plain rfl rfl rfl (w_cat rfl (ev_tmp rfl) (ev_tmp rfl) (by first | omega | (simp only [List.length_append, List.length_take, List.length_drop, List.length_cons, List.length_nil]; omega))) ?_
              refine sq_plain rfl rfl rfl (w_assign rfl (ev_tmp rfl)) ?_
              refine sq_nil ?_
              refine awp_region ?_
              refine sq_plain rfl rfl rfl (w_addi rfl (ev_tmp rfl) ev_ci (by first | omega | ((try simp only [List.length_map, List.length_take, List.length_cons, List.length_nil, chunks_len, szR] at *); omega) | (have hc2 := hc; simp only [Bool.and_eq_true, Bool.or_eq_true, Bool.or_eq_false_iff, Bool.and_eq_false_iff, Bool.not_eq_true', Bool.not_eq_false', decide_eq_true_eq, decide_eq_false_iff_not, beq_iff_eq, bne_iff_ne, List.length_map, List.length_take] at hc2; omega))) ?_
              refine sq_plain rfl rfl rfl (w_move rfl (ev_tmp rfl)) ?_
              refine sq_nil ?_
              refine round_end j (j + 1) ?_ ?_ (le_drop 1 ⟨congrArg (fun z => some (AV.str z)) (by first | exact (preW_nextT hx h71).symm | exact (preW_nextF hx h71).symm), rfl, rfl, rfl, rfl, trivial⟩)
              · omega
              · omega
          · intro h67
            have k67 := of_decide_eq_false h67; try simp only [List.length_map] at k67
            have hge : j = r.Writes.length := by omega
            rw [hge, preW_all]
            refine awp_exit ?_
            refine awp_seq ?_
            refine awp_region ?_
            refine sq_plain rfl rfl rfl (w_move rfl (ev_tmp rfl)) ?_
            refine sq_plain rfl rfl rfl (w_assign rfl (ev_tmp rfl)) ?_
            refine sq_nil ?_
            refine awp_ret ?_
            exact retR rfl (rv_tmp' rfl (by rfl))
      · intro h44
        have k44 := ne_of_beqf h44; try simp only [List.length_map] at k44
        refine awp_skip ?_
        refine awp_seq ?_
        refine awp_seq ?_
        refine awp_region ?_
        refine sq_plain rfl rfl rfl (w_fldBn 4 rfl Tryz.underlying37 rfl Tryz.sizeOf34 (ev_tmp rfl) rfl) ?_
        refine sq_plain rfl rfl rfl (w_loadB1 0 rfl (ev_tmp rfl) rfl Tryz.isAgg34 rfl) ?_
        refine sq_plain rfl rfl rfl (w_llen rfl Tryz.underlying34 (ev_tmp rfl)) ?_
        refine sq_plain rfl rfl rfl (w_move rfl ev_ci) ?_
        refine sq_nil ?_
        refine awp_block ?_
        refine awp_loop_i [(1, _), (2, _), (52, _), (53, _)] _ (fun (i : Nat) => i ≤ r.Reads.length) (fun (i : Nat) => []) (fun (i : Nat) => [(3, AV.str (preR r i)), (54, AV.int i)]) (fun (i : Nat) => r.Reads.length - i) (0) ?_ (le_env ⟨congrArg (fun z => some (AV.str z)) (by first | (exfalso; omega) | (rw [preR_zero]; unfold tkA tkT tkM tkL; rw [htd]; simp [spc, *]; done)), rfl, rfl, rfl, rfl, rfl, trivial⟩) ?_
        · exact Nat.zero_le _
        intro i hinv
        refine awp_seq ?_
        refine awp_region ?_
        refine sq_plain rfl rfl rfl (w_lss rfl (ev_tmp rfl) (ev_tmp rfl)) ?_
        refine sq_nil ?_
        refine awp_seq ?_
        refine awp_cond (ev_tmp rfl) ?_ ?_
        · intro h55
          have k55 := of_decide_eq_true h55; try simp only [List.length_map] at k55
          have hlt : i < r.Reads.length := by omega
          obtain ⟨x, hx⟩ := get_some hlt
          have hxk := l3KeyR_len (h.reads.2 x (List.mem_of_getElem? hx))
          have hpl := preR_len h i
          refine awp_skip ?_
          refine awp_seq ?_
          refine awp_block ?_
          refine awp_seq ?_
          refine awp_region ?_
          refine sq_plain rfl rfl rfl (w_idxm rfl Tryz.underlying34 Tryz.sizeOf9 (ev_tmp rfl) (ev_tmp rfl) hx (by first | omega | ((try simp only [List.length_map, List.length_take, List.length_cons, List.length_nil, chunks_len, szR] at *); omega) | (have hc2 := hc; simp only [Bool.and_eq_true, Bool.or_eq_true, Bool.or_eq_false_iff, Bool.and_eq_false_iff, Bool.not_eq_true', Bool.not_eq_false', decide_eq_true_eq, decide_eq_false_iff_not, beq_iff_eq, bne_iff_ne, List.length_map, List.length_take] at hc2; omega))) ?_
          refine sq_plain rfl rfl rfl (w_loadE1 rfl (ev_tmp rfl) Tryz.isAgg9 rfl) ?_
          refine sq_plain rfl rfl rfl (w_assign rfl (ev_tmp rfl)) ?_
          refine sq_nil ?_
          refine awp_region ?_
          refine sq_plain rfl rfl rfl (w_move rfl (ev_tmp rfl)) ?_
          refine sq_plain rfl rfl rfl (w_move rfl (ev_tmp rfl)) ?_
          refine sq_plain rfl rfl rfl (w_cat rfl (ev_cs' (l := [32, 63]) rfl) (ev_tmp rfl) (by first | omega | (simp only [List.length_append, List.length_take, List.length_drop, List.length_cons, List.length_nil]; omega))) ?_
          refine sq_plain rfl rfl rfl (w_cat rfl (ev_tmp rfl) (ev_tmp rfl) (by first | omega | (simp only [List.length_append, List.length_take, List.length_drop, List.length_cons, List.length_nil]; omega))) ?_
          refine sq_plain rfl rfl rfl (w_assign rfl (ev_tmp rfl)) ?_
          refine sq_nil ?_
          refine awp_region ?_
          refine sq_plain rfl rfl rfl (w_addi rfl (ev_tmp rfl) ev_ci (by first | omega | ((try simp only [List.length_map, List.length_take, List.length_cons, List.length_nil, chunks_len, szR] at *); omega) | (have hc2 := hc; simp only [Bool.and_eq_true, Bool.or_eq_true, Bool.or_eq_false_iff, Bool.and_eq_false_iff, Bool.not_eq_true', Bool.not_eq_false', decide_eq_true_eq, decide_eq_false_iff_not, beq_iff_eq, bne_iff_ne, List.length_map, List.length_take] at hc2; omega))) ?_
          refine sq_plain rfl rfl rfl (w_move rfl (ev_tmp rfl)) ?_
          refine sq_nil ?_
          refine round_end i (i + 1) ?_ ?_ (le_env ⟨congrArg (fun z => some (AV.str z)) (preR_next hx).symm, rfl, rfl, rfl, rfl, rfl, trivial⟩)
          · omega
          · omega
        · intro h55
          have k55 := of_decide_eq_false h55; try simp only [List.length_map] at k55
          have hge : i = r.Reads.length := by omega
          rw [hge]
          refine awp_exit ?_
          refine awp_seq ?_
          refine awp_seq ?_
          refine awp_region ?_
          refine sq_plain rfl rfl rfl (w_fldBn 5 rfl Tryz.underlying37 rfl Tryz.sizeOf35 (ev_tmp rfl) rfl) ?_
          refine sq_plain rfl rfl rfl (w_loadB1 0 rfl (ev_tmp rfl) rfl Tryz.isAgg35 rfl) ?_
          refine sq_plain rfl rfl rfl (w_llen rfl Tryz.underlying35 (ev_tmp rfl)) ?_
          refine sq_plain rfl rfl rfl (w_move rfl ev_ci) ?_
          refine sq_nil ?_
          refine awp_block ?_
          refine awp_loop_i [(2, _), (64, _), (65, _)] _ (fun (j : Nat) => j ≤ r.Writes.length) (fun (j : Nat) => []) (fun (j : Nat) => [(3, AV.str (preW r j)), (66, AV.int j)]) (fun (j : Nat) => r.Writes.length - j) (0) ?_ (le_env ⟨congrArg (fun z => some (AV.str z)) (preW_zero r).symm, rfl, rfl, rfl, rfl, trivial⟩) ?_
          · exact Nat.zero_le _
          intro j hinv
          refine awp_seq ?_
          refine awp_region ?_
          refine sq_plain rfl rfl rfl (w_lss rfl (ev_tmp rfl) (ev_tmp rfl)) ?_
          refine sq_nil ?_
          refine awp_seq ?_
          refine awp_cond (ev_tmp rfl) ?_ ?_
          · intro h67
            have k67 := of_decide_eq_true h67; try simp only [List.length_map] at k67
            have hlt : j < r.Writes.length := by omega
            obtain ⟨x, hx⟩ := get_some hlt
            have hxg := h.writes.2 x (List.mem_of_getElem? hx)
            have hxk := l3KeyR_len hxg.1
            have hxv := l3ValR_len hxg.2.1
            have hpl := preW_len h j
            refine awp_skip ?_
            refine awp_seq ?_
            refine awp_block ?_
            refine awp_seq ?_
            refine awp_region ?_
            refine sq_plain rfl rfl rfl (w_idxm rfl Tryz.underlying35 Tryz.sizeOf79 (ev_tmp rfl) (ev_tmp rfl) hx (by first | omega | ((try simp only [List.length_map, List.length_take, List.length_cons, List.length_nil, chunks_len, szR] at *); omega) | (have hc2 := hc; simp only [Bool.and_eq_true, Bool.or_eq_true, Bool.or_eq_false_iff, Bool.and_eq_false_iff, Bool.not_eq_true', Bool.not_eq_false', decide_eq_true_eq, decide_eq_false_iff_not, beq_iff_eq, bne_iff_ne, List.length_map, List.length_take] at hc2; omega))) ?_
            refine sq_plain rfl rfl rfl (w_loadE rfl (ev_tmp rfl) Tryz.isAgg79 Tryz.sizeOf79) ?_
            refine sq_alloc rfl rfl rfl rfl Tryz.zeroValue79 rfl ?_
            intro b7
            refine sq_storeB0 0 rfl rfl rfl (ev_tmp rfl) (ev_tmp rfl) (as_agg _) rfl Tryz.sizeOf79 rfl ?_
            refine sq_nil ?_
            refine awp_seq ?_
            refine awp_region ?_
            refine sq_plain rfl rfl rfl (w_fldBn 2 rfl Tryz.underlying79 rfl Tryz.sizeOf4 (ev_tmp rfl) rfl) ?_
            refine sq_plain rfl rfl rfl (w_loadB1 0 rfl (ev_tmp rfl) rfl Tryz.isAgg4 rfl) ?_
            refine sq_nil ?_
            refine awp_cond (ev_tmp rfl) ?_ ?_
            · intro h71
              refine awp_region ?_
              refine sq_plain rfl rfl rfl (w_move rfl (ev_tmp rfl)) ?_
              refine sq_plain rfl rfl rfl (w_fldBn 0 rfl Tryz.underlying79 rfl Tryz.sizeOf9 (ev_tmp rfl) rfl) ?_
              refine sq_plain rfl rfl rfl (w_loadB1 0 rfl (ev_tmp rfl) rfl Tryz.isAgg9 rfl) ?_
              refine sq_plain rfl rfl rfl (w_cat rfl (ev_cs' (l := [32, 33]) rfl) (ev_tmp rfl) (by first | omega | (simp only [List.length_append, List.length_take, List.length_drop, List.length_cons, List.length_nil]; omega))) ?_
              refine sq_plain rfl rfl rfl (w_cat rfl (ev_tmp rfl) (ev_cs' (l := [45]) rfl) (by first | omega | (simp only [List.length_append, List.length_take, List.length_drop, List.length_cons, List.length_nil]; omega))) ?_
              refine sq_plain rfl rfl rfl (w_cat rfl (ev_tmp rfl) (ev_tmp rfl) (by first | omega | (simp only [List.length_append, List.length_take, List.length_drop, List.length_cons, List.length_nil]; omega))) ?_
              refine sq_plain rfl rfl rfl (w_assign rfl (ev_tmp rfl)) ?_
              refine sq_nil ?_
              refine awp_region ?_
              refine sq_plain rfl rfl rfl (w_addi rfl (ev_tmp rfl) ev_ci (by first | omega | ((try simp only [List.length_map, List.length_take, List.length_cons, List.length_nil, chunks_len, szR] at *); omega) | (have hc2 := hc; simp only [Bool.and_eq_true, Bool.or_eq_true, Bool.or_eq_false_iff, Bool.and_eq_false_iff, Bool.not_eq_true', Bool.not_eq_false', decide_eq_true_eq, decide_eq_false_iff_not, beq_iff_eq, bne_iff_ne, List.length_map, List.length_take] at hc2; omega))) ?_
              refine sq_plain rfl rfl rfl (w_move rfl (ev_tmp rfl)) ?_
              refine sq_nil ?_
              refine round_end j (j + 1) ?_ ?_ (le_drop 1 ⟨congrArg (fun z => some (AV.str z)) (by first | exact (preW_nextT hx h71).symm | exact (preW_nextF hx h71).symm), rfl, rfl, rfl, rfl, trivial⟩)
              · omega
              · omega
            · intro h71
              refine awp_region ?_
              refine sq_plain rfl rfl rfl (w_move rfl (ev_tmp rfl)) ?_
              refine sq_plain rfl rfl rfl (w_fldBn 0 rfl Tryz.underlying79 rfl Tryz.sizeOf9 (ev_tmp rfl) rfl) ?_
              refine sq_plain rfl rfl rfl (w_loadB1 0 rfl (ev_tmp rfl) rfl Tryz.isAgg9 rfl) ?_
              refine sq_plain rfl rfl rfl (w_cat rfl (ev_cs' (l := [32, 33]) rfl) (ev_tmp rfl) (by first | omega | (simp only [List.length_append, List.length_take, List.length_drop, List.length_cons, List.length_nil]; omega))) ?_
              refine sq_plain rfl rfl rfl (w_cat rfl (ev_tmp rfl) (ev_cs' (l := [61]) rfl) (by first | omega | (simp only [List.length_append, List.length_take, List.length_drop, List.length_cons, List.length_nil]; omega))) ?_
              refine sq_plain rfl rfl rfl (w_fldBn 1 rfl Tryz.underlying79 rfl Tryz.sizeOf9 (ev_tmp rfl) rfl) ?_
              refine sq_plain rfl rfl rfl (w_loadB1 0 rfl (ev_tmp rfl) rfl Tryz.isAgg9 rfl) ?_
              refine sq_plain rfl rfl rfl (w_cat rfl (ev_tmp rfl) (ev_tmp rfl) (by first | omega | (simp only [List.length_append, List.length_take, List.length_drop, List.length_cons, List.length_nil]; omega))) ?_
              refine sq_plain rfl rfl rfl (w_cat rfl (ev_tmp rfl) (ev_tmp rfl) (by first | omega | (simp only [List.length_append, List.length_take, List.length_drop, List.length_cons, List.length_nil]; omega))) ?_
              refine sq_plain rfl rfl rfl (w_assign rfl (ev_tmp rfl)) ?_
              refine sq_nil ?_
              refine awp_region ?_
              refine sq_plain rfl rfl rfl (w_addi rfl (ev_tmp rfl) ev_ci (by first | omega | ((try simp only [List.length_map, List.length_take, List.length_cons, List.length_nil, chunks_len, szR] at *); omega) | (have hc2 := hc; simp only [Bool.and_eq_true, Bool.or_eq_true, Bool.or_eq_false_iff, Bool.and_eq_false_iff, Bool.not_eq_true', Bool.not_eq_false', decide_eq_true_eq, decide_eq_false_iff_not, beq_iff_eq, bne_iff_ne, List.length_map, List.length_take] at hc2; omega))) ?_
              refine sq_plain rfl rfl rfl (w_move rfl (ev_tmp rfl)) ?_
              refine sq_nil ?_
              refine round_end j (j + 1) ?_ ?_ (le_drop 1 ⟨congrArg (fun z => some (AV.str z)) (by first | exact (preW_nextT hx h71).symm | exact (preW_nextF hx h71).symm), rfl, rfl, rfl, rfl, trivial⟩)
              · omega
              · omega
          · intro h67
            have k67 := of_decide_eq_false h67; try simp only [List.length_map] at k67
            have hge : j = r.Writes.length := by omega
            rw [hge, preW_all]
            refine awp_exit ?_
            refine awp_seq ?_
            refine awp_region ?_
            refine sq_plain rfl rfl rfl (w_move rfl (ev_tmp rfl)) ?_
            refine sq_plain rfl rfl rfl (w_assign rfl (ev_tmp rfl)) ?_
            refine sq_nil ?_
            refine awp_ret ?_
            exact retR rfl (rv_tmp' rfl (by rfl))
  · intro h15
    have k15 := eq_of_bne_false h15; try simp only [List.length_map] at k15
    refine awp_skip ?_
    refine awp_seq ?_
    refine awp_seq ?_
    refine awp_region ?_
    refine sq_plain rfl rfl rfl (w_fldBn 0 rfl Tryz.underlying37 rfl Tryz.sizeOf3 (ev_tmp rfl) rfl) ?_
    refine sq_plain rfl rfl rfl (w_loadB1 0 rfl (ev_tmp rfl) rfl Tryz.isAgg3 rfl) ?_
    refine sq_plain rfl rfl rfl (w_eql rfl (ev_tmp rfl) ev_ci) ?_
    refine sq_plain rfl rfl rfl (w_move rfl (ev_tmp rfl)) ?_
    refine sq_grd rfl rfl (guard_f rfl rfl rfl) (fun hc => w_fldBn 0 rfl Tryz.underlying37 rfl Tryz.sizeOf3 (ev_tmp rfl) rfl) ?_
    refine sq_grd rfl rfl (guard_f rfl rfl rfl) (fun hc => w_loadB1 0 rfl (ev_whn rfl hc) rfl Tryz.isAgg3 rfl) ?_
    refine sq_grd rfl rfl (guard_f rfl rfl rfl) (fun hc => w_eql rfl (ev_whn rfl hc) ev_ci) ?_
    refine sq_plain rfl rfl rfl (w_or rfl (ev_tmp rfl) (evif_w rfl)) ?_
    refine sq_plain rfl rfl rfl (w_move rfl (ev_tmp rfl)) ?_
    refine sq_grd rfl rfl (guard_f rfl rfl rfl) (fun hc => w_fldBn 6 rfl Tryz.underlying37 rfl Tryz.sizeOf4 (ev_tmp rfl) rfl) ?_
    refine sq_grd rfl rfl (guard_f rfl rfl rfl) (fun hc => w_loadB1 0 rfl (ev_whn rfl hc) rfl Tryz.isAgg4 rfl) ?_
    refine sq_plain rfl rfl rfl (w_or rfl (ev_tmp rfl) (evif_w rfl)) ?_
    refine sq_nil ?_
    refine awp_cond (ev_tmp rfl) ?_ ?_
    · intro h33
      have htd : timedR r = true := h33
      refine awp_region ?_
      refine sq_plain rfl rfl rfl (w_move rfl (ev_tmp rfl)) ?_
      refine sq_plain rfl rfl rfl (w_fldBn 2 rfl Tryz.underlying37 rfl Tryz.sizeOf3 (ev_tmp rfl) rfl) ?_
      refine sq_plain rfl rfl rfl (w_loadB1 0 rfl (ev_tmp rfl) rfl Tryz.isAgg3 rfl) ?_
      refine sq_plain rfl rfl rfl (w_callB rfl Tryz.call96 rfl (itoa_spec r.Time (by omega)) (flat_str _) (evlb_cons (evb_wt 1 rfl (by first | exact fun _ h => h | exact fun _ h => h.1) (evb (ev_tmp rfl))) evlb_nil)) ?_
      refine sq_plain rfl rfl rfl (w_cat rfl (ev_cs' (l := [32, 64]) rfl) (ev_tmp rfl) (by first | omega | (simp only [List.length_append, List.length_take, List.length_drop, List.length_cons, List.length_nil]; omega))) ?_
      refine sq_plain rfl rfl rfl (w_cat rfl (ev_tmp rfl) (ev_tmp rfl) (by first | omega | (simp only [List.length_append, List.length_take, List.length_drop, List.length_cons, List.length_nil]; omega))) ?_
      refine sq_plain rfl rfl rfl (w_assign rfl (ev_tmp rfl)) ?_
      refine sq_nil ?_
      refine awp_seq ?_
      refine awp_seq ?_
      refine awp_region ?_
      refine sq_plain rfl rfl rfl (w_fldBn 0 rfl Tryz.underlying37 rfl Tryz.sizeOf3 (ev_tmp rfl) rfl) ?_
      refine sq_plain rfl rfl rfl (w_loadB1 0 rfl (ev_tmp rfl) rfl Tryz.isAgg3 rfl) ?_
      refine sq_plain rfl rfl rfl (w_eql rfl (ev_tmp rfl) ev_ci) ?_
      refine sq_nil ?_
      refine awp_cond (ev_tmp rfl) ?_ ?_
      · intro h44
        have k44 := eq_of_beqt h44; try simp only [List.length_map] at k44
        refine awp_region ?_
        refine sq_plain rfl rfl rfl (w_move rfl (ev_tmp rfl)) ?_
        refine sq_plain rfl rfl rfl (w_fldBn 3 rfl Tryz.underlying37 rfl Tryz.sizeOf3 (ev_tmp rfl) rfl) ?_
        refine sq_plain rfl rfl rfl (w_loadB1 0 rfl (ev_tmp rfl) rfl Tryz.isAgg3 rfl) ?_
        refine sq_plain rfl rfl rfl (w_callB rfl Tryz.call96 rfl (itoa_spec r.Lead (by omega)) (flat_str _) (evlb_cons (evb_wt 1 rfl (by first | exact fun _ h => h | exact fun _ h => h.1) (evb (ev_tmp rfl))) evlb_nil)) ?_
        refine sq_plain rfl rfl rfl (w_cat rfl (ev_cs' (l := [32, 62]) rfl) (ev_tmp rfl) (by first | omega | (simp only [List.length_append, List.length_take, List.length_drop, List.length_cons, List.length_nil]; omega))) ?_
        refine sq_plain rfl rfl rfl (w_cat rfl (ev_tmp rfl) (ev_tmp rfl) (by first | omega | (simp only [List.length_append, List.length_take, List.length_drop, List.length_cons, List.length_nil]; omega))) ?_
        refine sq_plain rfl rfl rfl (w_assign rfl (ev_tmp rfl)) ?_
        refine sq_nil ?_
        refine awp_seq ?_
        refine awp_seq ?_
        refine awp_region ?_
        refine sq_plain rfl rfl rfl (w_fldBn 4 rfl Tryz.underlying37 rfl Tryz.sizeOf34 (ev_tmp rfl) rfl) ?_
        refine sq_plain rfl rfl rfl (w_loadB1 0 rfl (ev_tmp rfl) rfl Tryz.isAgg34 rfl) ?_
        refine sq_plain rfl rfl rfl (w_llen rfl Tryz.underlying34 (ev_tmp rfl)) ?_
        refine sq_plain rfl rfl rfl (w_move rfl ev_ci) ?_
        refine sq_nil ?_
        refine awp_block ?_
        refine awp_loop_i [(1, _), (2, _), (52, _), (53, _)] _ (fun (i : Nat) => i ≤ r.Reads.length) (fun (i : Nat) => []) (fun (i : Nat) => [(3, AV.str (preR r i)), (54, AV.int i)]) (fun (i : Nat) => r.Reads.length - i) (0) ?_ (le_env ⟨congrArg (fun z => some (AV.str z)) (by first | (exfalso; omega) | (rw [preR_zero]; unfold tkA tkT tkM tkL; rw [htd]; simp [spc, *]; done)), rfl, rfl, rfl, rfl, rfl, trivial⟩) ?_
        · exact Nat.zero_le _
        intro i hinv
        refine awp_seq ?_
        refine awp_region ?_
        refine sq_plain rfl rfl rfl (w_lss rfl (ev_tmp rfl) (ev_tmp rfl)) ?_
        refine sq_nil ?_
        refine awp_seq ?_
        refine awp_cond (ev_tmp rfl) ?_ ?_
        · intro h55
          have k55 := of_decide_eq_true h55; try simp only [List.length_map] at k55
          have hlt : i < r.Reads.length := by omega
          obtain ⟨x, hx⟩ := get_some hlt
          have hxk := l3KeyR_len (h.reads.2 x (List.mem_of_getElem? hx))
          have hpl := preR_len h i
          refine awp_skip ?_
          refine awp_seq ?_
          refine awp_block ?_
          refine awp_seq ?_
          refine awp_region ?_
          refine sq_plain rfl rfl rfl (w_idxm rfl Tryz.underlying34 Tryz.sizeOf9 (ev_tmp rfl) (ev_tmp rfl) hx (by first | omega | ((try simp only [List.length_map, List.length_take, List.length_cons, List.length_nil, chunks_len, szR] at *); omega) | (have hc2 := hc; simp only [Bool.and_eq_true, Bool.or_eq_true, Bool.or_eq_false_iff, Bool.and_eq_false_iff, Bool.not_eq_true', Bool.not_eq_false', decide_eq_true_eq, decide_eq_false_iff_not, beq_iff_eq, bne_iff_ne, List.length_map, List.length_take] at hc2; omega))) ?_
          refine sq_plain rfl rfl rfl (w_loadE1 rfl (ev_tmp rfl) Tryz.isAgg9 rfl) ?_
          refine sq_plain rfl rfl rfl (w_assign rfl (ev_tmp rfl)) ?_
          refine sq_nil ?_
          refine awp_region ?_
          refine sq_plain rfl rfl rfl (w_move rfl (ev_tmp rfl)) ?_
          refine sq_plain rfl rfl rfl (w_move rfl (ev_tmp rfl)) ?_
          refine sq_plain rfl rfl rfl (w_cat rfl (ev_cs' (l := [32, 63]) rfl) (ev_tmp rfl) (by first | omega | (simp only [List.length_append, List.length_take, List.length_drop, List.length_cons, List.length_nil]; omega))) ?_
          refine sq_plain rfl rfl rfl (w_cat rfl (ev_tmp rfl) (ev_tmp rfl) (by first | omega | (simp only [List.length_append, List.length_take, List.length_drop, List.length_cons, List.length_nil]; omega))) ?_
          refine sq_plain rfl rfl rfl (w_assign rfl (ev_tmp rfl)) ?_
          refine sq_nil ?_
          refine awp_region ?_
          refine sq_plain rfl rfl rfl (w_addi rfl (ev_tmp rfl) ev_ci (by first | omega | ((try simp only [List.length_map, List.length_take, List.length_cons, List.length_nil, chunks_len, szR] at *); omega) | (have hc2 := hc; simp only [Bool.and_eq_true, Bool.or_eq_true, Bool.or_eq_false_iff, Bool.and_eq_false_iff, Bool.not_eq_true', Bool.not_eq_false', decide_eq_true_eq, decide_eq_false_iff_not, beq_iff_eq, bne_iff_ne, List.length_map, List.length_take] at hc2; omega))) ?_
          refine sq_plain rfl rfl rfl (w_move rfl (ev_tmp rfl)) ?_
          refine sq_nil ?_
          refine round_end i (i + 1) ?_ ?_ (le_env ⟨congrArg (fun z => some (AV.str z)) (preR_next hx).symm, rfl, rfl, rfl, rfl, rfl, trivial⟩)
          · omega
          · omega
        · intro h55
          have k55 := of_decide_eq_false h55; try simp only [List.length_map] at k55
          have hge : i = r.Reads.length := by omega
          rw [hge]
          refine awp_exit ?_
          refine awp_seq ?_
          refine awp_seq ?_
          refine awp_region ?_
          refine sq_plain rfl rfl rfl (w_fldBn 5 rfl Tryz.underlying37 rfl Tryz.sizeOf35 (ev_tmp rfl) rfl) ?_
          refine sq_plain rfl rfl rfl (w_loadB1 0 rfl (ev_tmp rfl) rfl Tryz.isAgg35 rfl) ?_
          refine sq_plain rfl rfl rfl (w_llen rfl Tryz.underlying35 (ev_tmp rfl)) ?_
          refine sq_plain rfl rfl rfl (w_move rfl ev_ci) ?_
          refine sq_nil ?_
          refine awp_block ?_
          refine awp_loop_i [(2, _), (64, _), (65, _)] _ (fun (j : Nat) => j ≤ r.Writes.length) (fun (j : Nat) => []) (fun (j : Nat) => [(3, AV.str (preW r j)), (66, AV.int j)]) (fun (j : Nat) => r.Writes.length - j) (0) ?_ (le_env ⟨congrArg (fun z => some (AV.str z)) (preW_zero r).symm, rfl, rfl, rfl, rfl, trivial⟩) ?_
          · exact Nat.zero_le _
          intro j hinv
          refine awp_seq ?_
          refine awp_region ?_
          refine sq_plain rfl rfl rfl (w_lss rfl (ev_tmp rfl) (ev_tmp rfl)) ?_
          refine sq_nil ?_
          refine awp_seq ?_
          refine awp_cond (ev_tmp rfl) ?_ ?_
          · intro h67
            have k67 := of_decide_eq_true h67; try simp only [List.length_map] at k67
            have hlt : j < r.Writes.length := by omega
            obtain ⟨x, hx⟩ := get_some hlt
            have hxg := h.writes.2 x (List.mem_of_getElem? hx)
            have hxk := l3KeyR_len hxg.1
            have hxv := l3ValR_len hxg.2.1
            have hpl := preW_len h j
            refine awp_skip ?_
            refine awp_seq ?_
            refine awp_block ?_
            refine awp_seq ?_
            refine awp_region ?_
            refine sq_plain rfl rfl rfl (w_idxm rfl Tryz.underlying35 Tryz.sizeOf79 (ev_tmp rfl) (ev_tmp rfl) hx (by first | omega | ((try simp only [List.length_map, List.length_take, List.length_cons, List.length_nil, chunks_len, szR] at *); omega) | (have hc2 := hc; simp only [Bool.and_eq_true, Bool.or_eq_true, Bool.or_eq_false_iff, Bool.and_eq_false_iff, Bool.not_eq_true', Bool.not_eq_false', decide_eq_true_eq, decide_eq_false_iff_not, beq_iff_eq, bne_iff_ne, List.length_map, List.length_take] at hc2; omega))) ?_
            refine sq_plain rfl rfl rfl (w_loadE rfl (ev_tmp rfl) Tryz.isAgg79 Tryz.sizeOf79) ?_
            refine sq_alloc rfl rfl rfl rfl Tryz.zeroValue79 rfl ?_
            intro b7
            refine sq_storeB0 0 rfl rfl rfl (ev_tmp rfl) (ev_tmp rfl) (as_agg _) rfl Tryz.sizeOf79 rfl ?_
            refine sq_nil ?_
            refine awp_seq ?_
            refine awp_region ?_
            refine sq_plain rfl rfl rfl (w_fldBn 2 rfl Tryz.underlying79 rfl Tryz.sizeOf4 (ev_tmp rfl) rfl) ?_
            refine sq_plain rfl rfl rfl (w_loadB1 0 rfl (ev_tmp rfl) rfl Tryz.isAgg4 rfl) ?_
            refine sq_nil ?_
            refine awp_cond (ev_tmp rfl) ?_ ?_
            · intro h71
              refine awp_region ?_
              refine sq_plain rfl rfl rfl (w_move rfl (ev_tmp rfl)) ?_
              refine sq_plain rfl rfl rfl (w_fldBn 0 rfl Tryz.underlying79 rfl Tryz.sizeOf9 (ev_tmp rfl) rfl) ?_
              refine sq_plain rfl rfl rfl (w_loadB1 0 rfl (ev_tmp rfl) rfl Tryz.isAgg9 rfl) ?_
              refine sq_plain rfl rfl rfl (w_cat rfl (ev_cs' (l := [32, 33]) rfl) (ev_tmp rfl) (by first | omega | (simp only [List.length_append, List.length_take, List.length_drop, List.length_cons, List.length_nil]; omega))) ?_
              refine sq_plain rfl rfl rfl (w_cat rfl (ev_tmp rfl) (ev_cs' (l := [45]) rfl) (by first | omega | (simp only [List.length_append, List.length_take, List.length_drop, List.length_cons, List.length_nil]; omega))) ?_
              refine sq_plain rfl rfl rfl (w_cat rfl (ev_tmp rfl) (ev_tmp rfl) (by first | omega | (simp only [List.length_append, List.length_take, List.length_drop, List.length_cons, List.length_nil]; omega))) ?_
              refine sq_plain rfl rfl rfl (w_assign rfl (ev_tmp rfl)) ?_
              refine sq_nil ?_
              refine awp_region ?_
              refine sq_plain rfl rfl rfl (w_addi rfl (ev_tmp rfl) ev_ci (by first | omega | ((try simp only [List.length_map, List.length_take, List.length_cons, List.length_nil, chunks_len, szR] at *); omega) | (have hc2 := hc; simp only [Bool.and_eq_true, Bool.or_eq_true, Bool.or_eq_false_iff, Bool.and_eq_false_iff, Bool.not_eq_true', Bool.not_eq_false', decide_eq_true_eq, decide_eq_false_iff_not, beq_iff_eq, bne_iff_ne, List.length_map, List.length_take] at hc2; omega))) ?_
              refine sq_plain rfl rfl rfl (w_move rfl (ev_tmp rfl)) ?_
              refine sq_nil ?_
              refine round_end j (j + 1) ?_ ?_ (le_drop 1 ⟨congrArg (fun z => some (AV.str z)) (by first | exact (preW_nextT hx h71).symm | exact (preW_nextF hx h71).symm), rfl, rfl, rfl, rfl, trivial⟩)
              · omega
              · omega
            · intro h71
              refine awp_region ?_
              refine sq_plain rfl rfl rfl (w_move rfl (ev_tmp rfl)) ?_
              refine sq_plain rfl rfl rfl (w_fldBn 0 rfl Tryz.underlying79 rfl Tryz.sizeOf9 (ev_tmp rfl) rfl) ?_
              refine sq_plain rfl rfl rfl (w_loadB1 0 rfl (ev_tmp rfl) rfl Tryz.isAgg9 rfl) ?_
              refine sq_plain rfl rfl rfl (w_cat rfl (ev_cs' (l := [32, 33]) rfl) (ev_tmp rfl) (by first | omega | (simp only [List.length_append, List.length_take, List.length_drop, List.length_cons, List.length_nil]; omega))) ?_
              refine sq_plain rfl rfl rfl (w_cat rfl (ev_tmp rfl) (ev_cs' (l := [61]) rfl) (by first | omega | (simp only [List.length_append, List.length_take, List.length_drop, List.length_cons, List.length_nil]; omega))) ?_
              refine sq_plain rfl rfl rfl (w_fldBn 1 rfl Tryz.underlying79 rfl Tryz.sizeOf9 (ev_tmp rfl) rfl) ?_
              refine sq_plain rfl rfl rfl (w_loadB1 0 rfl (ev_tmp rfl) rfl Tryz.isAgg9 rfl) ?_
              refine sq_plain rfl rfl rfl (w_cat rfl (ev_tmp rfl) (ev_tmp rfl) (by first | omega | (simp only [List.length_append, List.length_take, List.length_drop, List.length_cons, List.length_nil]; omega))) ?_
              refine sq_plain rfl rfl rfl (w_cat rfl (ev_tmp rfl) (ev_tmp rfl) (by first | omega | (simp only [List.length_append, List.length_take, List.length_drop, List.length_cons, List.length_nil]; omega))) ?_
              refine sq_plain rfl rfl rfl (w_assign rfl (ev_tmp rfl)) ?_
              refine sq_nil ?_
              refine awp_region ?_
              refine sq_plain rfl rfl rfl (w_addi rfl (ev_tmp rfl) ev_ci (by first | omega | ((try simp only [List.length_map, List.length_take, List.length_cons, List.length_nil, chunks_len, szR] at *); omega) | (have hc2 := hc; simp only [Bool.and_eq_true, Bool.or_eq_true, Bool.or_eq_false_iff, Bool.and_eq_false_iff, Bool.not_eq_true', Bool.not_eq_false', decide_eq_true_eq, decide_eq_false_iff_not, beq_iff_eq, bne_iff_ne, List.length_map, List.length_take] at hc2; omega))) ?_
              refine sq_plain rfl rfl rfl (w_move rfl (ev_tmp rfl)) ?_
              refine sq_nil ?_
              refine round_end j (j + 1) ?_ ?_ (le_drop 1 ⟨congrArg (fun z => some (AV.str z)) (by first | exact (preW_nextT hx h71).symm | exact (preW_nextF hx h71).symm), rfl, rfl, rfl, rfl, trivial⟩)
              · omega
              · omega
          · intro h67
            have k67 := of_decide_eq_false h67; try simp only [List.length_map] at k67
            have hge : j = r.Writes.length := by omega
            rw [hge, preW_all]
            refine awp_exit ?_
            refine awp_seq ?_
            refine awp_region ?_
            refine sq_plain rfl rfl rfl (w_move rfl (ev_tmp rfl)) ?_
            refine sq_plain rfl rfl rfl (w_assign rfl (ev_tmp rfl)) ?_
            refine sq_nil ?_
            refine awp_ret ?_
            exact retR rfl (rv_tmp' rfl (by rfl))
      · intro h44
        have k44 := ne_of_beqf h44; try simp only [List.length_map] at k44
        refine awp_skip ?_
        refine awp_seq ?_
        refine awp_seq ?_
        refine awp_region ?_
        refine sq_plain rfl rfl rfl (w_fldBn 4 rfl Tryz.underlying37 rfl Tryz.sizeOf34 (ev_tmp rfl) rfl) ?_
        refine sq_plain rfl rfl rfl (w_loadB1 0 rfl (ev_tmp rfl) rfl Tryz.isAgg34 rfl) ?_
        refine sq_plain rfl rfl rfl (w_llen rfl Tryz.underlying34 (ev_tmp rfl)) ?_
        refine sq_plain rfl rfl rfl (w_move rfl ev_ci) ?_
        refine sq_nil ?_
        refine awp_block ?_
        refine awp_loop_i [(1, _), (2, _), (52, _), (53, _)] _ (fun (i : Nat) => i ≤ r.Reads.length) (fun (i : Nat) => []) (fun (i : Nat) => [(3, AV.str (preR r i)), (54, AV.int i)]) (fun (i : Nat) => r.Reads.length - i) (0) ?_ (le_env ⟨congrArg (fun z => some (AV.str z)) (by first | (exfalso; omega) | (rw [preR_zero]; unfold tkA tkT tkM tkL; rw [htd]; simp [spc, *]; done)), rfl, rfl, rfl, rfl, rfl, trivial⟩) ?_
        · exact Nat.zero_le _
        intro i hinv
        refine awp_seq ?_
        refine awp_region ?_
        refine sq_plain rfl rfl rfl (w_lss rfl (ev_tmp rfl) (ev_tmp rfl)) ?_
        refine sq_nil ?_
        refine awp_seq ?_
        refine awp_cond (ev_tmp rfl) ?_ ?_
        · intro h55
          have k55 := of_decide_eq_true h55; try simp only [List.length_map] at k55
          have hlt : i < r.Reads.length := by omega
          obtain ⟨x, hx⟩ := get_some hlt
          have hxk := l3KeyR_len (h.reads.2 x (List.mem_of_getElem? hx))
          have hpl := preR_len h i
          refine awp_skip ?_
          refine awp_seq ?_
          refine awp_block ?_
          refine awp_seq ?_
          refine awp_region ?_
          refine sq_plain rfl rfl rfl (w_idxm rfl Tryz.underlying34 Tryz.sizeOf9 (ev_tmp rfl) (ev_tmp rfl) hx (by first | omega | ((try simp only [List.length_map, List.length_take, List.length_cons, List.length_nil, chunks_len, szR] at *); omega) | (have hc2 := hc; simp only [Bool.and_eq_true, Bool.or_eq_true, Bool.or_eq_false_iff, Bool.and_eq_false_iff, Bool.not_eq_true', Bool.not_eq_false', decide_eq_true_eq, decide_eq_false_iff_not, beq_iff_eq, bne_iff_ne, List.length_map, List.length_take] at hc2; omega))) ?_
          refine sq_plain rfl rfl rfl (w_loadE1 rfl (ev_tmp rfl) Tryz.isAgg9 rfl) ?_
          refine sq_plain rfl rfl rfl (w_assign rfl (ev_tmp rfl)) ?_
          refine sq_nil ?_
          refine awp_region ?_
          refine sq_plain rfl rfl rfl (w_move rfl (ev_tmp rfl)) ?_
          refine sq_plain rfl rfl rfl (w_move rfl (ev_tmp rfl)) ?_
          refine sq_plain rfl rfl rfl (w_cat rfl (ev_cs' (l := [32, 63]) rfl) (ev_tmp rfl) (by first | omega | (simp only [List.length_append, List.length_take, List.length_drop, List.length_cons, List.length_nil]; omega))) ?_
          refine sq_plain rfl rfl rfl (w_cat rfl (ev_tmp rfl) (ev_tmp rfl) (by first | omega | (simp only [List.length_append, List.length_take, List.length_drop, List.length_cons, List.length_nil]; omega))) ?_
          refine sq_plain rfl rfl rfl (w_assign rfl (ev_tmp rfl)) ?_
          refine sq_nil ?_
          refine awp_region ?_
          refine sq_plain rfl rfl rfl (w_addi rfl (ev_tmp rfl) ev_ci (by first | omega | ((try simp only [List.length_map, List.length_take, List.length_cons, List.length_nil, chunks_len, szR] at *); omega) | (have hc2 := hc; simp only [Bool.and_eq_true, Bool.or_eq_true, Bool.or_eq_false_iff, Bool.and_eq_false_iff, Bool.not_eq_true', Bool.not_eq_false', decide_eq_true_eq, decide_eq_false_iff_not, beq_iff_eq, bne_iff_ne, List.length_map, List.length_take] at hc2; omega))) ?_
          refine sq_plain rfl rfl rfl (w_move rfl (ev_tmp rfl)) ?_
          refine sq_nil ?_
          refine round_end i (i + 1) ?_ ?_ (le_env ⟨congrArg (fun z => some (AV.str z)) (preR_next hx).symm, rfl, rfl, rfl, rfl, rfl, trivial⟩)
          · omega
          · omega
        · intro h55
          have k55 := of_decide_eq_false h55; try simp only [List.length_map] at k55
          have hge : i = r.Reads.length := by omega
          rw [hge]
          refine awp_exit ?_
          refine awp_seq ?_
          refine awp_seq ?_
          refine awp_region ?_
          refine sq_plain rfl rfl rfl (w_fldBn 5 rfl Tryz.underlying37 rfl Tryz.sizeOf35 (ev_tmp rfl) rfl) ?_
          refine sq_plain rfl rfl rfl (w_loadB1 0 rfl (ev_tmp rfl) rfl Tryz.isAgg35 rfl) ?_
          refine sq_plain rfl rfl rfl (w_llen rfl Tryz.underlying35 (ev_tmp rfl)) ?_
          refine sq_plain rfl rfl rfl (w_move rfl ev_ci) ?_
          refine sq_nil ?_
          refine awp_block ?_
          refine awp_loop_i [(2, _), (64, _), (65, _)] _ (fun (j : Nat) => j ≤ r.Writes.length) (fun (j : Nat) => []) (fun (j : Nat) => [(3, AV.str (preW r j)), (66, AV.int j)]) (fun (j : Nat) => r.Writes.length - j) (0) ?_ (le_env ⟨congrArg (fun z => some (AV.str z)) (preW_zero r).symm, rfl, rfl, rfl, rfl, trivial⟩) ?_
          · exact Nat.zero_le _
          intro j hinv
          refine awp_seq ?_
          refine awp_region ?_
          refine sq_plain rfl rfl rfl (w_lss rfl (ev_tmp rfl) (ev_tmp rfl)) ?_
          refine sq_nil ?_
          refine awp_seq ?_
          refine awp_cond (ev_tmp rfl) ?_ ?_
          · intro h67
            have k67 := of_decide_eq_true h67; try simp only [List.length_map] at k67
            have hlt : j < r.Writes.length := by omega
            obtain ⟨x, hx⟩ := get_some hlt
            have hxg := h.writes.2 x (List.mem_of_getElem? hx)
            have hxk := l3KeyR_len hxg.1
            have hxv := l3ValR_len hxg.2.1
            have hpl := preW_len h j
            refine awp_skip ?_
            refine awp_seq ?_
            refine awp_block ?_
            refine awp_seq ?_
            refine awp_region ?_
            refine sq_plain rfl rfl rfl (w_idxm rfl Tryz.underlying35 Tryz.sizeOf79 (ev_tmp rfl) (ev_tmp rfl) hx (by first | omega | ((try simp only [List.length_map, List.length_take, List.length_cons, List.length_nil, chunks_len, szR] at *); omega) | (have hc2 := hc; simp only [Bool.and_eq_true, Bool.or_eq_true, Bool.or_eq_false_iff, Bool.and_eq_false_iff, Bool.not_eq_true', Bool.not_eq_false', decide_eq_true_eq, decide_eq_false_iff_not, beq_iff_eq, bne_iff_ne, List.length_map, List.length_take] at hc2; omega))) ?_
            refine sq_plain rfl rfl rfl (w_loadE rfl (ev_tmp rfl) Tryz.isAgg79 Tryz.sizeOf79) ?_
            refine sq_alloc rfl rfl rfl rfl Tryz.zeroValue79 rfl ?_
            intro b7
            refine sq_storeB0 0 rfl rfl rfl (ev_tmp rfl) (ev_tmp rfl) (as_agg _) rfl Tryz.sizeOf79 rfl ?_
            refine sq_nil ?_
            refine awp_seq ?_
            refine awp_region ?_
            refine sq_plain rfl rfl rfl (w_fldBn 2 rfl Tryz.underlying79 rfl Tryz.sizeOf4 (ev_tmp rfl) rfl) ?_
            refine sq_plain rfl rfl rfl (w_loadB1 0 rfl (ev_tmp rfl) rfl Tryz.isAgg4 rfl) ?_
            refine sq_nil ?_
            refine awp_cond (ev_tmp rfl) ?_ ?_
            · intro h71
              refine awp_region ?_
              refine sq_plain rfl rfl rfl (w_move rfl (ev_tmp rfl)) ?_
              refine sq_plain rfl rfl rfl (w_fldBn 0 rfl Tryz.underlying79 rfl Tryz.sizeOf9 (ev_tmp rfl) rfl) ?_
              refine sq_plain rfl rfl rfl (w_loadB1 0 rfl (ev_tmp rfl) rfl Tryz.isAgg9 rfl) ?_
              refine sq_plain rfl rfl rfl (w_cat rfl (ev_cs' (l := [32, 33]) rfl) (ev_tmp rfl) (by first | omega | (simp only [List.length_append, List.length_take, List.length_drop, List.length_cons, List.length_nil]; omega))) ?_
              refine sq_plain rfl rfl rfl (w_cat rfl (ev_tmp rfl) (ev_cs' (l := [45]) rfl) (by first | omega | (simp only [List.length_append, List.length_take, List.length_drop, List.length_cons, List.length_nil]; omega))) ?_
              refine sq_plain rfl rfl rfl (w_cat rfl (ev_tmp rfl) (ev_tmp rfl) (by first | omega | (simp only [List.length_append, List.length_take, List.length_drop, List.length_cons, List.length_nil]; omega))) ?_
              refine sq_plain rfl rfl rfl (w_assign rfl (ev_tmp rfl)) ?_
              refine sq_nil ?_
              refine awp_region ?_
              refine sq_plain rfl rfl rfl (w_addi rfl (ev_tmp rfl) ev_ci (by first | omega | ((try simp only [List.length_map, List.length_take, List.length_cons, List.length_nil, chunks_len, szR] at *); omega) | (have hc2 := hc; simp only [Bool.and_eq_true, Bool.or_eq_true, Bool.or_eq_false_iff, Bool.and_eq_false_iff, Bool.not_eq_true', Bool.not_eq_false', decide_eq_true_eq, decide_eq_false_iff_not, beq_iff_eq, bne_iff_ne, List.length_map, List.length_take] at hc2; omega))) ?_
              refine sq_plain rfl rfl rfl (w_move rfl (ev_tmp rfl)) ?_
              refine sq_nil ?_
              refine round_end j (j + 1) ?_ ?_ (le_drop 1 ⟨congrArg (fun z => some (AV.str z)) (by first | exact (preW_nextT hx h71).symm | exact (preW_nextF hx h71).symm), rfl, rfl, rfl, rfl, trivial⟩)
              · omega
              · omega
            · intro h71
              refine awp_region ?_
              refine sq_plain rfl rfl rfl (w_move rfl (ev_tmp rfl)) ?_
              refine sq_plain rfl rfl rfl (w_fldBn 0 rfl Tryz.underlying79 rfl Tryz.sizeOf9 (ev_tmp rfl) rfl) ?_
              refine sq_plain rfl rfl rfl (w_loadB1 0 rfl (ev_tmp rfl) rfl Tryz.isAgg9 rfl) ?_
              refine sq_plain rfl rfl rfl (w_cat rfl (ev_cs' (l := [32, 33]) rfl) (ev_tmp rfl) (by first | omega | (simp only [List.length_append, List.length_take, List.length_drop, List.length_cons, List.length_nil]; omega))) ?_
              refine sq_plain rfl rfl rfl (w_cat rfl (ev_tmp rfl) (ev_cs' (l := [61]) rfl) (by first | omega | (simp only [List.length_append, List.length_take, List.length_drop, List.length_cons, List.length_nil]; omega))) ?_
              refine sq_plain rfl rfl rfl (w_fldBn 1 rfl Tryz.underlying79 rfl Tryz.sizeOf9 (ev_tmp rfl) rfl) ?_
              refine sq_plain rfl rfl rfl (w_loadB1 0 rfl (ev_tmp rfl) rfl Tryz.isAgg9 rfl) ?_
              refine sq_plain rfl rfl rfl (w_cat rfl (ev_tmp rfl) (ev_tmp rfl) (by first | omega | (simp only [List.length_append, List.length_take, List.length_drop, List.length_cons, List.length_nil]; omega))) ?_
              refine sq_plain rfl rfl rfl (w_cat rfl (ev_tmp rfl) (ev_tmp rfl) (by first | omega | (simp only [List.length_append, List.length_take, List.length_drop, List.length_cons, List.length_nil]; omega))) ?_
              refine sq_plain rfl rfl rfl (w_assign rfl (ev_tmp rfl)) ?_
              refine sq_nil ?_
              refine awp_region ?_
              refine sq_plain rfl rfl rfl (w_addi rfl (ev_tmp rfl) ev_ci (by first | omega | ((try simp only [List.length_map, List.length_take, List.length_cons, List.length_nil, chunks_len, szR] at *); omega) | (have hc2 := hc; simp only [Bool.and_eq_true, Bool.or_eq_true, Bool.or_eq_false_iff, Bool.and_eq_false_iff, Bool.not_eq_true', Bool.not_eq_false', decide_eq_true_eq, decide_eq_false_iff_not, beq_iff_eq, bne_iff_ne, List.length_map, List.length_take] at hc2; omega))) ?_
              refine sq_plain rfl rfl rfl (w_move rfl (ev_tmp rfl)) ?_
              refine sq_nil ?_
              refine round_end j (j + 1) ?_ ?_ (le_drop 1 ⟨congrArg (fun z => some (AV.str z)) (by first | exact (preW_nextT hx h71).symm | exact (preW_nextF hx h71).symm), rfl, rfl, rfl, rfl, trivial⟩)
              · omega
              · omega
          · intro h67
            have k67 := of_decide_eq_false h67; try simp only [List.length_map] at k67
            have hge : j = r.Writes.length := by omega
            rw [hge, preW_all]
            refine awp_exit ?_
            refine awp_seq ?_
            refine awp_region ?_
            refine sq_plain rfl rfl rfl (w_move rfl (ev_tmp rfl)) ?_
            refine sq_plain rfl rfl rfl (w_assign rfl (ev_tmp rfl)) ?_
            refine sq_nil ?_
            refine awp_ret ?_
            exact retR rfl (rv_tmp' rfl (by rfl))
    · intro h33
      have htd : timedR r = false := h33
      refine awp_region ?_
      refine sq_plain rfl rfl rfl (w_move rfl (ev_tmp rfl)) ?_
      refine sq_plain rfl rfl rfl (w_cat rfl (ev_tmp rfl) (ev_cs' (l := [32, 110, 111]) rfl) (by first | omega | (simp only [List.length_append, List.length_take, List.length_drop, List.length_cons, List.length_nil]; omega))) ?_
      refine sq_plain rfl rfl rfl (w_assign rfl (ev_tmp rfl)) ?_
      refine sq_nil ?_
      refine awp_seq ?_
      refine awp_seq ?_
      refine awp_region ?_
      refine sq_plain rfl rfl rfl (w_fldBn 0 rfl Tryz.underlying37 rfl Tryz.sizeOf3 (ev_tmp rfl) rfl) ?_
      refine sq_plain rfl rfl rfl (w_loadB1 0 rfl (ev_tmp rfl) rfl Tryz.isAgg3 rfl) ?_
      refine sq_plain rfl rfl rfl (w_eql rfl (ev_tmp rfl) ev_ci) ?_
      refine sq_nil ?_
      refine awp_cond (ev_tmp rfl) ?_ ?_
      · intro h44
        have k44 := eq_of_beqt h44; try simp only [List.length_map] at k44
        refine awp_region ?_
        refine sq_plain rfl rfl rfl (w_move rfl (ev_tmp rfl)) ?_
        refine sq_plain rfl rfl rfl (w_fldBn 3 rfl Tryz.underlying37 rfl Tryz.sizeOf3 (ev_tmp rfl) rfl) ?_
        refine sq_plain rfl rfl rfl (w_loadB1 0 rfl (ev_tmp rfl) rfl Tryz.isAgg3 rfl) ?_
        refine sq_plain rfl rfl rfl (w_callB rfl Tryz.call96 rfl (itoa_spec r.Lead (by omega)) (flat_str _) (evlb_cons (evb_wt 1 rfl (by first | exact fun _ h => h | exact fun _ h => h.1) (evb (ev_tmp rfl))) evlb_nil)) ?_
        refine sq_plain rfl rfl rfl (w_cat rfl (ev_cs' (l := [32, 62]) rfl) (ev_tmp rfl) (by first | omega | (simp only [List.length_append, List.length_take, List.length_drop, List.length_cons, List.length_nil]; omega))) ?_
        refine sq_plain rfl rfl rfl (w_cat rfl (ev_tmp rfl) (ev_tmp rfl) (by first | omega | (simp only [List.length_append, List.length_take, List.length_drop, List.length_cons, List.length_nil]; omega))) ?_
        refine sq_plain rfl rfl rfl (w_assign rfl (ev_tmp rfl)) ?_
        refine sq_nil ?_
        refine awp_seq ?_
        refine awp_seq ?_
        refine awp_region ?_
        refine sq_plain rfl rfl rfl (w_fldBn 4 rfl Tryz.underlying37 rfl Tryz.sizeOf34 (ev_tmp rfl) rfl) ?_
        refine sq_plain rfl rfl rfl (w_loadB1 0 rfl (ev_tmp rfl) rfl Tryz.isAgg34 rfl) ?_
        refine sq_plain rfl rfl rfl (w_llen rfl Tryz.underlying34 (ev_tmp rfl)) ?_
        refine sq_plain rfl rfl rfl (w_move rfl ev_ci) ?_
        refine sq_nil ?_
        refine awp_block ?_
        refine awp_loop_i [(1, _), (2, _), (52, _), (53, _)] _ (fun (i : Nat) => i ≤ r.Reads.length) (fun (i : Nat) => []) (fun (i : Nat) => [(3, AV.str (preR r i)), (54, AV.int i)]) (fun (i : Nat) => r.Reads.length - i) (0) ?_ (le_env ⟨congrArg (fun z => some (AV.str z)) (by first | (exfalso; omega) | (rw [preR_zero]; unfold tkA tkT tkM tkL; rw [htd]; simp [spc, *]; done)), rfl, rfl, rfl, rfl, rfl, trivial⟩) ?_
        · exact Nat.zero_le _
        intro i hinv
        refine awp_seq ?_
        refine awp_region ?_
        refine sq_plain rfl rfl rfl (w_lss rfl (ev_tmp rfl) (ev_tmp rfl)) ?_
        refine sq_nil ?_
        refine awp_seq ?_
        refine awp_cond (ev_tmp rfl) ?_ ?_
        · intro h55
          have k55 := of_decide_eq_true h55; try simp only [List.length_map] at k55
          have hlt : i < r.Reads.length := by omega
          obtain ⟨x, hx⟩ := get_some hlt
          have hxk := l3KeyR_len (h.reads.2 x (List.mem_of_getElem? hx))
          have hpl := preR_len h i
          refine awp_skip ?_
          refine awp_seq ?_
          refine awp_block ?_
          refine awp_seq ?_
          refine awp_region ?_
          refine sq_plain rfl rfl rfl (w_idxm rfl Tryz.underlying34 Tryz.sizeOf9 (ev_tmp rfl) (ev_tmp rfl) hx (by first | omega | ((try simp only [List.length_map, List.length_take, List.length_cons, List.length_nil, chunks_len, szR] at *); omega) | (have hc2 := hc; simp only [Bool.and_eq_true, Bool.or_eq_true, Bool.or_eq_false_iff, Bool.and_eq_false_iff, Bool.not_eq_true', Bool.not_eq_false', decide_eq_true_eq, decide_eq_false_iff_not, beq_iff_eq, bne_iff_ne, List.length_map, List.length_take] at hc2; omega))) ?_
          refine sq_plain rfl rfl rfl (w_loadE1 rfl (ev_tmp rfl) Tryz.isAgg9 rfl) ?_
          refine sq_plain rfl rfl rfl (w_assign rfl (ev_tmp rfl)) ?_
          refine sq_nil ?_
          refine awp_region ?_
          refine sq_plain rfl rfl rfl (w_move rfl (ev_tmp rfl)) ?_
          refine sq_plain rfl rfl rfl (w_move rfl (ev_tmp rfl)) ?_
          refine sq_plain rfl rfl rfl (w_cat rfl (ev_cs' (l := [32, 63]) rfl) (ev_tmp rfl) (by first | omega | (simp only [List.length_append, List.length_take, List.length_drop, List.length_cons, List.length_nil]; omega))) ?_
          refine sq_plain rfl rfl rfl (w_cat rfl (ev_tmp rfl) (ev_tmp rfl) (by first | omega | (simp only [List.length_append, List.length_take, List.length_drop, List.length_cons, List.length_nil]; omega))) ?_
          refine sq_plain rfl rfl rfl (w_assign rfl (ev_tmp rfl)) ?_
          refine sq_nil ?_
          refine awp_region ?_
          refine sq_plain rfl rfl rfl (w_addi rfl (ev_tmp rfl) ev_ci (by first | omega | ((try simp only [List.length_map, List.length_take, List.length_cons, List.length_nil, chunks_len, szR] at *); omega) | (have hc2 := hc; simp only [Bool.and_eq_true, Bool.or_eq_true, Bool.or_eq_false_iff, Bool.and_eq_false_iff, Bool.not_eq_true', Bool.not_eq_false', decide_eq_true_eq, decide_eq_false_iff_not, beq_iff_eq, bne_iff_ne, List.length_map, List.length_take] at hc2; omega))) ?_
          refine sq_plain rfl rfl rfl (w_move rfl (ev_tmp rfl)) ?_
          refine sq_nil ?_
          refine round_end i (i + 1) ?_ ?_ (le_env ⟨congrArg (fun z => some (AV.str z)) (preR_next hx).symm, rfl, rfl, rfl, rfl, rfl, trivial⟩)
          · omega
          · omega
        · intro h55
          have k55 := of_decide_eq_false h55; try simp only [List.length_map] at k55
          have hge : i = r.Reads.length := by omega
          rw [hge]
          refine awp_exit ?_
          refine awp_seq ?_
          refine awp_seq ?_
          refine awp_region ?_
          refine sq_plain rfl rfl rfl (w_fldBn 5 rfl Tryz.underlying37 rfl Tryz.sizeOf35 (ev_tmp rfl) rfl) ?_
          refine sq_plain rfl rfl rfl (w_loadB1 0 rfl (ev_tmp rfl) rfl Tryz.isAgg35 rfl) ?_
          refine sq_plain rfl rfl rfl (w_llen rfl Tryz.underlying35 (ev_tmp rfl)) ?_
          refine sq_plain rfl rfl rfl (w_move rfl ev_ci) ?_
          refine sq_nil ?_
          refine awp_block ?_
          refine awp_loop_i [(2, _), (64, _), (65, _)] _ (fun (j : Nat) => j ≤ r.Writes.length) (fun (j : Nat) => []) (fun (j : Nat) => [(3, AV.str (preW r j)), (66, AV.int j)]) (fun (j : Nat) => r.Writes.length - j) (0) ?_ (le_env ⟨congrArg (fun z => some (AV.str z)) (preW_zero r).symm, rfl, rfl, rfl, rfl, trivial⟩) ?_
          · exact Nat.zero_le _
          intro j hinv
          refine awp_seq ?_
          refine awp_region ?_
          refine sq_plain rfl rfl rfl (w_lss rfl (ev_tmp rfl) (ev_tmp rfl)) ?_
          refine sq_nil ?_
          refine awp_seq ?_
          refine awp_cond (ev_tmp rfl) ?_ ?_
          · intro h67
            have k67 := of_decide_eq_true h67; try simp only [List.length_map] at k67
            have hlt : j < r.Writes.length := by omega
            obtain ⟨x, hx⟩ := get_some hlt
            have hxg := h.writes.2 x (List.mem_of_getElem? hx)
            have hxk := l3KeyR_len hxg.1
            have hxv := l3ValR_len hxg.2.1
            have hpl := preW_len h j
            refine awp_skip ?_
            refine awp_seq ?_
            refine awp_block ?_
            refine awp_seq ?_
            refine awp_region ?_
            refine sq_plain rfl rfl rfl (w_idxm rfl Tryz.underlying35 Tryz.sizeOf79 (ev_tmp rfl) (ev_tmp rfl) hx (by first | omega | ((try simp only [List.length_map, List.length_take, List.length_cons, List.length_nil, chunks_len, szR] at *); omega) | (have hc2 := hc; simp only [Bool.and_eq_true, Bool.or_eq_true, Bool.or_eq_false_iff, Bool.and_eq_false_iff, Bool.not_eq_true', Bool.not_eq_false', decide_eq_true_eq, decide_eq_false_iff_not, beq_iff_eq, bne_iff_ne, List.length_map, List.length_take] at hc2; omega))) ?_
            refine sq_plain rfl rfl rfl (w_loadE rfl (ev_tmp rfl) Tryz.isAgg79 Tryz.sizeOf79) ?_
            refine sq_alloc rfl rfl rfl rfl Tryz.zeroValue79 rfl ?_
            intro b7
            refine sq_storeB0 0 rfl rfl rfl (ev_tmp rfl) (ev_tmp rfl) (as_agg _) rfl Tryz.sizeOf79 rfl ?_
            refine sq_nil ?_
            refine awp_seq ?_
            refine awp_region ?_
            refine sq_plain rfl rfl rfl (w_fldBn 2 rfl Tryz.underlying79 rfl Tryz.sizeOf4 (ev_tmp rfl) rfl) ?_
            refine sq_plain rfl rfl rfl (w_loadB1 0 rfl (ev_tmp rfl) rfl Tryz.isAgg4 rfl) ?_
            refine sq_nil ?_
            refine awp_cond (ev_tmp rfl) ?_ ?_
            · intro h71
              refine awp_region ?_
              refine sq_plain rfl rfl rfl (w_move rfl (ev_tmp rfl)) ?_
              refine sq_plain rfl rfl rfl (w_fldBn 0 rfl Tryz.underlying79 rfl Tryz.sizeOf9 (ev_tmp rfl) rfl) ?_
              refine sq_plain rfl rfl rfl (w_loadB1 0 rfl (ev_tmp rfl) rfl Tryz.isAgg9 rfl) ?_
              refine sq_plain rfl rfl rfl (w_cat rfl (ev_cs' (l := [32, 33]) rfl) (ev_tmp rfl) (by first | omega | (simp only [List.length_append, List.length_take, List.length_drop, List.length_cons, List.length_nil]; omega))) ?_
              refine sq_plain rfl rfl rfl (w_cat rfl (ev_tmp rfl) (ev_cs' (l := [45]) rfl) (by first | omega | (simp only [List.length_append, List.length_take, List.length_drop, List.length_cons, List.length_nil]; omega))) ?_
              refine sq_plain rfl rfl rfl (w_cat rfl (ev_tmp rfl) (ev_tmp rfl) (by first | omega | (simp only [List.length_append, List.length_take, List.length_drop, List.length_cons, List.length_nil]; omega))) ?_
              refine sq_plain rfl rfl rfl (w_assign rfl (ev_tmp rfl)) ?_
              refine sq_nil ?_
              refine awp_region ?_
              refine sq_plain rfl rfl rfl (w_addi rfl (ev_tmp rfl) ev_ci (by first | omega | ((try simp only [List.length_map, List.length_take, List.length_cons, List.length_nil, chunks_len, szR] at *); omega) | (have hc2 := hc; simp only [Bool.and_eq_true, Bool.or_eq_true, Bool.or_eq_false_iff, Bool.and_eq_false_iff, Bool.not_eq_true', Bool.not_eq_false', decide_eq_true_eq, decide_eq_false_iff_not, beq_iff_eq, bne_iff_ne, List.length_map, List.length_take] at hc2; omega))) ?_
              refine sq_plain rfl rfl rfl (w_move rfl (ev_tmp rfl)) ?_
              refine sq_nil ?_
              refine round_end j (j + 1) ?_ ?_ (le_drop 1 ⟨congrArg (fun z => some (AV.str z)) (by first | exact (preW_nextT hx h71).symm | exact (preW_nextF hx h71).symm), rfl, rfl, rfl, rfl, trivial⟩)
              · omega
              · omega
            · intro h71
              refine awp_region ?_
              refine sq_plain rfl rfl rfl (w_move rfl (ev_tmp rfl)) ?_
              refine sq_plain rfl rfl rfl (w_fldBn 0 rfl Tryz.underlying79 rfl Tryz.sizeOf9 (ev_tmp rfl) rfl) ?_
              refine sq_plain rfl rfl rfl (w_loadB1 0 rfl (ev_tmp rfl) rfl Tryz.isAgg9 rfl) ?_
              refine sq_plain rfl rfl rfl (w_cat rfl (ev_cs' (l := [32, 33]) rfl) (ev_tmp rfl) (by first | omega | (simp only [List.length_append, List.length_take, List.length_drop, List.length_cons, List.length_nil]; omega))) ?_
              refine sq_plain rfl rfl rfl (w_cat rfl (ev_tmp rfl) (ev_cs' (l := [61]) rfl) (by first | omega | (simp only [List.length_append, List.length_take, List.length_drop, List.length_cons, List.length_nil]; omega))) ?_
              refine sq_plain rfl rfl rfl (w_fldBn 1 rfl Tryz.underlying79 rfl Tryz.sizeOf9 (ev_tmp rfl) rfl) ?_
              refine sq_plain rfl rfl rfl (w_loadB1 0 rfl (ev_tmp rfl) rfl Tryz.isAgg9 rfl) ?_
              refine sq_plain rfl rfl rfl (w_cat rfl (ev_tmp rfl) (ev_tmp rfl) (by first | omega | (simp only [List.length_append, List.length_take, List.length_drop, List.length_cons, List.length_nil]; omega))) ?_
              refine sq_plain rfl rfl rfl (w_cat rfl (ev_tmp rfl) (ev_tmp rfl) (by first | omega | (simp only [List.length_append, List.length_take, List.length_drop, List.length_cons, List.length_nil]; omega))) ?_
              refine sq_plain rfl rfl rfl (w_assign rfl (ev_tmp rfl)) ?_
              refine sq_nil ?_
              refine awp_region ?_
              refine sq_plain rfl rfl rfl (w_addi rfl (ev_tmp rfl) ev_ci (by first | omega | ((try simp only [List.length_map, List.length_take, List.length_cons, List.length_nil, chunks_len, szR] at *); omega) | (have hc2 := hc; simp only [Bool.and_eq_true, Bool.or_eq_true, Bool.or_eq_false_iff, Bool.and_eq_false_iff, Bool.not_eq_true', Bool.not_eq_false', decide_eq_true_eq, decide_eq_false_iff_not, beq_iff_eq, bne_iff_ne, List.length_map, List.length_take] at hc2; omega))) ?_
              refine sq_plain rfl rfl rfl (w_move rfl (ev_tmp rfl)) ?_
              refine sq_nil ?_
              refine round_end j (j + 1) ?_ ?_ (le_drop 1 ⟨congrArg (fun z => some (AV.str z)) (by first | exact (preW_nextT hx h71).symm | exact (preW_nextF hx h71).symm), rfl, rfl, rfl, rfl, trivial⟩)
              · omega
              · omega
          · intro h67
            have k67 := of_decide_eq_false h67; try simp only [List.length_map] at k67
            have hge : j = r.Writes.length := by omega
            rw [hge, preW_all]
            refine awp_exit ?_
            refine awp_seq ?_
            refine awp_region ?_
            refine sq_plain rfl rfl rfl (w_move rfl (ev_tmp rfl)) ?_
            refine sq_plain rfl rfl rfl (w_assign rfl (ev_tmp rfl)) ?_
            refine sq_nil ?_
            refine awp_ret ?_
            exact retR rfl (rv_tmp' rfl (by rfl))
      · intro h44
        have k44 := ne_of_beqf h44; try simp only [List.length_map] at k44
        refine awp_skip ?_
        refine awp_seq ?_
        refine awp_seq ?_
        refine awp_region ?_
        refine sq_plain rfl rfl rfl (w_fldBn 4 rfl Tryz.underlying37 rfl Tryz.sizeOf34 (ev_tmp rfl) rfl) ?_
        refine sq_plain rfl rfl rfl (w_loadB1 0 rfl (ev_tmp rfl) rfl Tryz.isAgg34 rfl) ?_
        refine sq_plain rfl rfl rfl (w_llen rfl Tryz.underlying34 (ev_tmp rfl)) ?_
        refine sq_plain rfl rfl rfl (w_move rfl ev_ci) ?_
        refine sq_nil ?_
        refine awp_block ?_
        refine awp_loop_i [(1, _), (2, _), (52, _), (53, _)] _ (fun (i : Nat) => i ≤ r.Reads.length) (fun (i : Nat) => []) (fun (i : Nat) => [(3, AV.str (preR r i)), (54, AV.int i)]) (fun (i : Nat) => r.Reads.length - i) (0) ?_ (le_env ⟨congrArg (fun z => some (AV.str z)) (by first | (exfalso; omega) | (rw [preR_zero]; unfold tkA tkT tkM tkL; rw [htd]; simp [spc, *]; done)), rfl, rfl, rfl, rfl, rfl, trivial⟩) ?_
        · exact Nat.zero_le _
        intro i hinv
        refine awp_seq ?_
        refine awp_region ?_
        refine sq_plain rfl rfl rfl (w_lss rfl (ev_tmp rfl) (ev_tmp rfl)) ?_
        refine sq_nil ?_
        refine awp_seq ?_
        refine awp_cond (ev_tmp rfl) ?_ ?_
        · intro h55
          have k55 := of_decide_eq_true h55; try simp only [List.length_map] at k55
          have hlt : i < r.Reads.length := by omega
          obtain ⟨x, hx⟩ := get_some hlt
          have hxk := l3KeyR_len (h.reads.2 x (List.mem_of_getElem? hx))
          have hpl := preR_len h i
          refine awp_skip ?_
          refine awp_seq ?_
          refine awp_block ?_
          refine awp_seq ?_
          refine awp_region ?_
          refine sq_plain rfl rfl rfl (w_idxm rfl Tryz.underlying34 Tryz.sizeOf9 (ev_tmp rfl) (ev_tmp rfl) hx (by first | omega | ((try simp only [List.length_map, List.length_take, List.length_cons, List.length_nil, chunks_len, szR] at *); omega) | (have hc2 := hc; simp only [Bool.and_eq_true, Bool.or_eq_true, Bool.or_eq_false_iff, Bool.and_eq_false_iff, Bool.not_eq_true', Bool.not_eq_false', decide_eq_true_eq, decide_eq_false_iff_not, beq_iff_eq, bne_iff_ne, List.length_map, List.length_take] at hc2; omega))) ?_
          refine sq_plain rfl rfl rfl (w_loadE1 rfl (ev_tmp rfl) Tryz.isAgg9 rfl) ?_
          refine sq_plain rfl rfl rfl (w_assign rfl (ev_tmp rfl)) ?_
          refine sq_nil ?_
          refine awp_region ?_
          refine sq_plain rfl rfl rfl (w_move rfl (ev_tmp rfl)) ?_
          refine sq_plain rfl rfl rfl (w_move rfl (ev_tmp rfl)) ?_
          refine sq_plain rfl rfl rfl (w_cat rfl (ev_cs' (l := [32, 63]) rfl) (ev_tmp rfl) (by first | omega | (simp only [List.length_append, List.length_take, List.length_drop, List.length_cons, List.length_nil]; omega))) ?_
          refine sq_plain rfl rfl rfl (w_cat rfl (ev_tmp rfl) (ev_tmp rfl) (by first | omega | (simp only [List.length_append, List.length_take, List.length_drop, List.length_cons, List.length_nil]; omega))) ?_
          refine sq_plain rfl rfl rfl (w_assign rfl (ev_tmp rfl)) ?_
          refine sq_nil ?_
          refine awp_region ?_
          refine sq_plain rfl rfl rfl (w_addi rfl (ev_tmp rfl) ev_ci (by first | omega | ((try simp only [List.length_map, List.length_take, List.length_cons, List.length_nil, chunks_len, szR] at *); omega) | (have hc2 := hc; simp only [Bool.and_eq_true, Bool.or_eq_true, Bool.or_eq_false_iff, Bool.and_eq_false_iff, Bool.not_eq_true', Bool.not_eq_false', decide_eq_true_eq, decide_eq_false_iff_not, beq_iff_eq, bne_iff_ne, List.length_map, List.length_take] at hc2; omega))) ?_
          refine sq_plain rfl rfl rfl (w_move rfl (ev_tmp rfl)) ?_
          refine sq_nil ?_
          refine round_end i (i + 1) ?_ ?_ (le_env ⟨congrArg (fun z => some (AV.str z)) (preR_next hx).symm, rfl, rfl, rfl, rfl, rfl, trivial⟩)
          · omega
          · omega
        · intro h55
          have k55 := of_decide_eq_false h55; try simp only [List.length_map] at k55
          have hge : i = r.Reads.length := by omega
          rw [hge]
          refine awp_exit ?_
          refine awp_seq ?_
          refine awp_seq ?_
          refine awp_region ?_
          refine sq_plain rfl rfl rfl (w_fldBn 5 rfl Tryz.underlying37 rfl Tryz.sizeOf35 (ev_tmp rfl) rfl) ?_
          refine sq_plain rfl rfl rfl (w_loadB1 0 rfl (ev_tmp rfl) rfl Tryz.isAgg35 rfl) ?_
          refine sq_plain rfl rfl rfl (w_llen rfl Tryz.underlying35 (ev_tmp rfl)) ?_
          refine sq_plain rfl rfl rfl (w_move rfl ev_ci) ?_
          refine sq_nil ?_
          refine awp_block ?_
          refine awp_loop_i [(2, _), (64, _), (65, _)] _ (fun (j : Nat) => j ≤ r.Writes.length) (fun (j : Nat) => []) (fun (j : Nat) => [(3, AV.str (preW r j)), (66, AV.int j)]) (fun (j : Nat) => r.Writes.length - j) (0) ?_ (le_env ⟨congrArg (fun z => some (AV.str z)) (preW_zero r).symm, rfl, rfl, rfl, rfl, trivial⟩) ?_
          · exact Nat.zero_le _
          intro j hinv
          refine awp_seq ?_
          refine awp_region ?_
          refine sq_plain rfl rfl rfl (w_lss rfl (ev_tmp rfl) (ev_tmp rfl)) ?_
          refine sq_nil ?_
          refine awp_seq ?_
          refine awp_cond (ev_tmp rfl) ?_ ?_
          · intro h67
            have k67 := of_decide_eq_true h67; try simp only [List.length_map] at k67
            have hlt : j < r.Writes.length := by omega
            obtain ⟨x, hx⟩ := get_some hlt
            have hxg := h.writes.2 x (List.mem_of_getElem? hx)
            have hxk := l3KeyR_len hxg.1
            have hxv := l3ValR_len hxg.2.1
            have hpl := preW_len h j
            refine awp_skip ?_
            refine awp_seq ?_
            refine awp_block ?_
            refine awp_seq ?_
            refine awp_region ?_
            refine sq_plain rfl rfl rfl (w_idxm rfl Tryz.underlying35 Tryz.sizeOf79 (ev_tmp rfl) (ev_tmp rfl) hx (by first | omega | ((try simp only [List.length_map, List.length_take, List.length_cons, List.length_nil, chunks_len, szR] at *); omega) | (have hc2 := hc; simp only [Bool.and_eq_true, Bool.or_eq_true, Bool.or_eq_false_iff, Bool.and_eq_false_iff, Bool.not_eq_true', Bool.not_eq_false', decide_eq_true_eq, decide_eq_false_iff_not, beq_iff_eq, bne_iff_ne, List.length_map, List.length_take] at hc2; omega))) ?_
            refine sq_plain rfl rfl rfl (w_loadE rfl (ev_tmp rfl) Tryz.isAgg79 Tryz.sizeOf79) ?_
            refine sq_alloc rfl rfl rfl rfl Tryz.zeroValue79 rfl ?_
            intro b7
            refine sq_storeB0 0 rfl rfl rfl (ev_tmp rfl) (ev_tmp rfl) (as_agg _) rfl Tryz.sizeOf79 rfl ?_
            refine sq_nil ?_
            refine awp_seq ?_
            refine awp_region ?_
            refine sq_plain rfl rfl rfl (w_fldBn 2 rfl Tryz.underlying79 rfl Tryz.sizeOf4 (ev_tmp rfl) rfl) ?_
            refine sq_plain rfl rfl rfl (w_loadB1 0 rfl (ev_tmp rfl) rfl Tryz.isAgg4 rfl) ?_
            refine sq_nil ?_
            refine awp_cond (ev_tmp rfl) ?_ ?_
            · intro h71
              refine awp_region ?_
              refine sq_plain rfl rfl rfl (w_move rfl (ev_tmp rfl)) ?_
              refine sq_plain rfl rfl rfl (w_fldBn 0 rfl Tryz.underlying79 rfl Tryz.sizeOf9 (ev_tmp rfl) rfl) ?_
              refine sq_plain rfl rfl rfl (w_loadB1 0 rfl (ev_tmp rfl) rfl Tryz.isAgg9 rfl) ?_
              refine sq_plain rfl rfl rfl (w_cat rfl (ev_cs' (l := [32, 33]) rfl) (ev_tmp rfl) (by first | omega | (simp only [List.length_append, List.length_take, List.length_drop, List.length_cons, List.length_nil]; omega))) ?_
              refine sq_plain rfl rfl rfl (w_cat rfl (ev_tmp rfl) (ev_cs' (l := [45]) rfl) (by first | omega | (simp only [List.length_append, List.length_take, List.length_drop, List.length_cons, List.length_nil]; omega))) ?_
              refine sq_plain rfl rfl rfl (w_cat rfl (ev_tmp rfl) (ev_tmp rfl) (by first | omega | (simp only [List.length_append, List.length_take, List.length_drop, List.length_cons, List.length_nil]; omega))) ?_
              refine sq_plain rfl rfl rfl (w_assign rfl (ev_tmp rfl)) ?_
              refine sq_nil ?_
              refine awp_region ?_
              refine sq_plain rfl rfl rfl (w_addi rfl (ev_tmp rfl) ev_ci (by first | omega | ((try simp only [List.length_map, List.length_take, List.length_cons, List.length_nil, chunks_len, szR] at *); omega) | (have hc2 := hc; simp only [Bool.and_eq_true, Bool.or_eq_true, Bool.or_eq_false_iff, Bool.and_eq_false_iff, Bool.not_eq_true', Bool.not_eq_false', decide_eq_true_eq, decide_eq_false_iff_not, beq_iff_eq, bne_iff_ne, List.length_map, List.length_take] at hc2; omega))) ?_
              refine sq_plain rfl rfl rfl (w_move rfl (ev_tmp rfl)) ?_
              refine sq_nil ?_
              refine round_end j (j + 1) ?_ ?_ (le_drop 1 ⟨congrArg (fun z => some (AV.str z)) (by first | exact (preW_nextT hx h71).symm | exact (preW_nextF hx h71).symm), rfl, rfl, rfl, rfl, trivial⟩)
              · omega
              · omega
            · intro h71
              refine awp_region ?_
              refine sq_plain rfl rfl rfl (w_move rfl (ev_tmp rfl)) ?_
              refine sq_plain rfl rfl rfl (w_fldBn 0 rfl Tryz.underlying79 rfl Tryz.sizeOf9 (ev_tmp rfl) rfl) ?_
              refine sq_plain rfl rfl rfl (w_loadB1 0 rfl (ev_tmp rfl) rfl Tryz.isAgg9 rfl) ?_
              refine sq_plain rfl rfl rfl (w_cat rfl (ev_cs' (l := [32, 33]) rfl) (ev_tmp rfl) (by first | omega | (simp only [List.length_append, List.length_take, List.length_drop, List.length_cons, List.length_nil]; omega))) ?_
              refine sq_plain rfl rfl rfl (w_cat rfl (ev_tmp rfl) (ev_cs' (l := [61]) rfl) (by first | omega | (simp only [List.length_append, List.length_take, List.length_drop, List.length_cons, List.length_nil]; omega))) ?_
              refine sq_plain rfl rfl rfl (w_fldBn 1 rfl Tryz.underlying79 rfl Tryz.sizeOf9 (ev_tmp rfl) rfl) ?_
              refine sq_plain rfl rfl rfl (w_loadB1 0 rfl (ev_tmp rfl) rfl Tryz.isAgg9 rfl) ?_
              refine sq_plain rfl rfl rfl (w_cat rfl (ev_tmp rfl) (ev_tmp rfl) (by first | omega | (simp only [List.length_append, List.length_take, List.length_drop, List.length_cons, List.length_nil]; omega))) ?_
              refine sq_plain rfl rfl rfl (w_cat rfl (ev_tmp rfl) (ev_tmp rfl) (by first | omega | (simp only [List.length_append, List.length_take, List.length_drop, List.length_cons, List.length_nil]; omega))) ?_
              refine sq_plain rfl rfl rfl (w_assign rfl (ev_tmp rfl)) ?_
              refine sq_nil ?_
              refine awp_region ?_
              refine sq_plain rfl rfl rfl (w_addi rfl (ev_tmp rfl) ev_ci (by first | omega | ((try simp only [List.length_map, List.length_take, List.length_cons, List.length_nil, chunks_len, szR] at *); omega) | (have hc2 := hc; simp only [Bool.and_eq_true, Bool.or_eq_true, Bool.or_eq_false_iff, Bool.and_eq_false_iff, Bool.not_eq_true', Bool.not_eq_false', decide_eq_true_eq, decide_eq_false_iff_not, beq_iff_eq, bne_iff_ne, List.length_map, List.length_take] at hc2; omega))) ?_
              refine sq_plain rfl rfl rfl (w_move rfl (ev_tmp rfl)) ?_
              refine sq_nil ?_
              refine round_end j (j + 1) ?_ ?_ (le_drop 1 ⟨congrArg (fun z => some (AV.str z)) (by first | exact (preW_nextT hx h71).symm | exact (preW_nextF hx h71).symm), rfl, rfl, rfl, rfl, trivial⟩)
              · omega
              · omega
          · intro h67
            have k67 := of_decide_eq_false h67; try simp only [List.length_map] at k67
            have hge : j = r.Writes.length := by omega
            rw [hge, preW_all]
            refine awp_exit ?_
            refine awp_seq ?_
            refine awp_region ?_
            refine sq_plain rfl rfl rfl (w_move rfl (ev_tmp rfl)) ?_
            refine sq_plain rfl rfl rfl (w_assign rfl (ev_tmp rfl)) ?_
            refine sq_nil ?_
            refine awp_ret ?_
            exact retR rfl (rv_tmp' rfl (by rfl))
theorem recTextR_spec (r : TRec) (hs : r.size ≤ 1048576) : FSpec Tryz.prog 19 [AV.wt tabW (AV.agg r.cs)] (AV.tup [AV.str (recTextR r).1, AV.bool (recTextR r).2]) := by
  refine spec_of_awp Tryz.func19 rfl Tryz.ntmps19 rfl ?_
  refine AWP.le (le_tab (t := 0) rfl) ?_
  refine awp_seq ?_
  refine awp_region ?_
  refine sq_box rfl rfl rfl rfl (ev_tmp rfl) ?_
  intro b1
  refine sq_plain rfl rfl rfl (w_assign rfl (ev_cs' (l := []) rfl)) ?_
  refine sq_plain rfl rfl rfl (w_assign rfl ev_cb) ?_
  refine sq_nil ?_
  refine awp_seq ?_
  refine awp_seq ?_
  refine awp_region ?_
  refine sq_plain rfl rfl rfl (w_loadA 0 rfl (ev_tmp rfl) rfl Tryz.isAgg37 Tryz.sizeOf37 rfl) ?_
  refine sq_plain rfl rfl rfl (w_call rfl Tryz.call21 rfl (goodRec_spec _ (by first | assumption | omega)) (evl_cons (ev_tmp rfl) evl_nil)) ?_
  refine sq_plain rfl rfl rfl (w_not rfl (ev_tmp rfl)) ?_
  refine sq_nil ?_
  refine awp_cond (ev_tmp rfl) ?_ ?_
  · intro h6
    have he : recTextR r = ([], false) := if_neg (by simpa using h6)
    rw [he]
    refine awp_seq ?_
    refine awp_region ?_
    refine sq_plain rfl rfl rfl (w_assign rfl (ev_cs' (l := []) rfl)) ?_
    refine sq_plain rfl rfl rfl (w_assign rfl ev_cb) ?_
    refine sq_nil ?_
    refine awp_ret ?_
    exact retN rfl (by decide) (rv_cons (rv_tmp' rfl (by rfl)) (rv_cons (rv_tmp' rfl (by rfl)) rv_nil))
  · intro h6
    have hg : goodRec r = true := by simpa using h6
    have he : recTextR r = (recT r, true) := if_pos hg
    rw [he]
    refine awp_skip ?_
    refine awp_seq ?_
    refine awp_region ?_
    refine sq_plain rfl rfl rfl (w_loadA 0 rfl (ev_tmp rfl) rfl Tryz.isAgg37 Tryz.sizeOf37 rfl) ?_
    refine sq_plain rfl rfl rfl (w_callB rfl Tryz.call58 rfl (recText_spec _ (by first | assumption | omega)) (flat_str _) (evlb_cons (evb_wt 1 rfl (by first | exact fun _ h => h | exact fun _ h => h.1) (evb (ev_tmp rfl))) evlb_nil)) ?_
    refine sq_plain rfl rfl rfl (w_assign rfl (ev_tmp rfl)) ?_
    refine sq_plain rfl rfl rfl (w_assign rfl ev_cb) ?_
    refine sq_nil ?_
    refine awp_ret ?_
    exact retN rfl (by decide) (rv_cons (rv_tmp' rfl (by rfl)) (rv_cons (rv_tmp' rfl (by rfl)) rv_nil))
theorem l1NumI_spec (n : Int) (h : 0 ≤ n ∧ n ≤ 1000000) : FSpec Tryz.prog 117 [AV.int n] (AV.str (itoaD n)) := by
  obtain ⟨m, rfl⟩ : ∃ m : Nat, n = (m : Int) := ⟨n.toNat, by omega⟩
  rw [itoa_nat]
  exact l1Num_spec m (by omega)
theorem l4Text_spec (r : TRec) (hg : goodRec r = true) : FSpec Tryz.prog 59 [AV.agg r.cs] (AV.str (recT r)) := by
  have h := goodR hg
  have k1 := h.kind; have k2 := h.txn; have k3 := h.time; have k4 := h.lead
  have k5 := h.writes.1; have k6 := h.reads.1
  have n1 := itoa_len6 (n := r.Txn) (by omega)
  have n2 := itoa_len6 (n := r.Time) (by omega)
  have n3 := itoa_len6 (n := r.Lead) (by omega)
  have n4 := rcW_len h.kind
  have htp := timed_pos hg
  refine spec_of_awp Tryz.func59 rfl Tryz.ntmps59 rfl ?_
  refine awp_seq ?_
  refine awp_region ?_
  refine sq_box rfl rfl rfl rfl (ev_tmp rfl) ?_
  intro b1
  refine sq_plain rfl rfl rfl (w_assign rfl (ev_cs' (l := []) rfl)) ?_
  refine sq_nil ?_
  refine awp_seq ?_
  refine awp_region_any (by kernel_rfl) (by kernel_rfl) rfl ?_
  refine ch_plain rfl rfl (w_call rfl Tryz.call85 rfl (l4Words_spec) evl_nil) ?_
  refine ch_plain rfl rfl (w_fldBn 0 rfl Tryz.underlying37 rfl Tryz.sizeOf3 (ev_tmp rfl) rfl) ?_
  refine ch_plain rfl rfl (w_loadB1 0 rfl (ev_tmp rfl) rfl Tryz.isAgg3 rfl) ?_
  refine ch_plain rfl rfl (w_idx rfl Tryz.underlying34 Tryz.sizeOf9 (ev_tmp rfl) (ev_tmp rfl) (by omega) (rcW_get h.kind)) ?_
  refine ch_plain rfl rfl (w_loadE1 rfl (ev_tmp rfl) Tryz.isAgg9 rfl) ?_
  refine ch_plain rfl rfl (w_assign rfl (ev_tmp rfl)) ?_
  refine ch_nil ?_
  refine awp_seq ?_
  refine awp_seq ?_
  refine awp_region ?_
  refine sq_plain rfl rfl rfl (w_fldBn 0 rfl Tryz.underlying37 rfl Tryz.sizeOf3 (ev_tmp rfl) rfl) ?_
  refine sq_plain rfl rfl rfl (w_loadB1 0 rfl (ev_tmp rfl) rfl Tryz.isAgg3 rfl) ?_
  refine sq_plain rfl rfl rfl (w_neq rfl (ev_tmp rfl) ev_ci) ?_
  refine sq_nil ?_
  refine awp_cond (ev_tmp rfl) ?_ ?_
  · intro h15
    have k15 := ne_of_bne h15; try simp only [List.length_map] at k15
    refine awp_region ?_
    refine sq_plain rfl rfl rfl (w_move rfl (ev_tmp rfl)) ?_
    refine sq_plain rfl rfl rfl (w_fldBn 1 rfl Tryz.underlying37 rfl Tryz.sizeOf3 (ev_tmp rfl) rfl) ?_
    refine sq_plain rfl rfl rfl (w_loadB1 0 rfl (ev_tmp rfl) rfl Tryz.isAgg3 rfl) ?_
    refine sq_plain rfl rfl rfl (w_call rfl Tryz.call117 rfl (l1NumI_spec r.Txn (by omega)) (evl_cons (ev_tmp rfl) evl_nil)) ?_
    refine sq_plain rfl rfl rfl (w_cat rfl (ev_cs' (l := [32]) rfl) (ev_tmp rfl) (by first | omega | (simp only [List.length_append, List.length_take, List.length_drop, List.length_cons, List.length_nil]; omega))) ?_
    refine sq_plain rfl rfl rfl (w_cat rfl (ev_tmp rfl) (ev_tmp rfl) (by first | omega | (simp only [List.length_append, List.length_take, List.length_drop, List.length_cons, List.length_nil]; omega))) ?_
    refine sq_plain rfl rfl rfl (w_assign rfl (ev_tmp rfl)) ?_
    refine sq_nil ?_
    refine awp_seq ?_
    refine awp_seq ?_
    refine awp_region ?_
    refine sq_plain rfl rfl rfl (w_fldBn 2 rfl Tryz.underlying37 rfl Tryz.sizeOf3 (ev_tmp rfl) rfl) ?_
    refine sq_plain rfl rfl rfl (w_loadB1 0 rfl (ev_tmp rfl) rfl Tryz.isAgg3 rfl) ?_
    refine sq_plain rfl rfl rfl (w_gtr rfl (ev_tmp rfl) ev_ci) ?_
    refine sq_nil ?_
    refine awp_cond (ev_tmp rfl) ?_ ?_
    · intro h24
      have k24 := of_decide_eq_true h24; try simp only [List.length_map] at k24
      have htd : timedR r = true := htp.symm.trans h24
      refine awp_region ?_
      refine sq_plain rfl rfl rfl (w_move rfl (ev_tmp rfl)) ?_
      refine sq_plain rfl rfl rfl (w_fldBn 2 rfl Tryz.underlying37 rfl Tryz.sizeOf3 (ev_tmp rfl) rfl) ?_
      refine sq_plain rfl rfl rfl (w_loadB1 0 rfl (ev_tmp rfl) rfl Tryz.isAgg3 rfl) ?_
      refine sq_plain rfl rfl rfl (w_call rfl Tryz.call117 rfl (l1NumI_spec r.Time (by omega)) (evl_cons (ev_tmp rfl) evl_nil)) ?_
      refine sq_plain rfl rfl rfl (w_cat rfl (ev_cs' (l := [32, 64]) rfl) (ev_tmp rfl) (by first | omega | (simp only [List.length_append, List.length_take, List.length_drop, List.length_cons, List.length_nil]; omega))) ?_
      refine sq_plain rfl rfl rfl (w_cat rfl (ev_tmp rfl) (ev_tmp rfl) (by first | omega | (simp only [List.length_append, List.length_take, List.length_drop, List.length_cons, List.length_nil]; omega))) ?_
      refine sq_plain rfl rfl rfl (w_assign rfl (ev_tmp rfl)) ?_
      refine sq_nil ?_
      refine awp_seq ?_
      refine awp_seq ?_
      refine awp_region ?_
      refine sq_plain rfl rfl rfl (w_fldBn 0 rfl Tryz.underlying37 rfl Tryz.sizeOf3 (ev_tmp rfl) rfl) ?_
      refine sq_plain rfl rfl rfl (w_loadB1 0 rfl (ev_tmp rfl) rfl Tryz.isAgg3 rfl) ?_
      refine sq_plain rfl rfl rfl (w_neq rfl (ev_tmp rfl) ev_ci) ?_
      refine sq_nil ?_
      refine awp_cond (ev_tmp rfl) ?_ ?_
      · intro h35
        have k35 := ne_of_bne h35; try simp only [List.length_map] at k35
        rw [recT_short hg (by omega)]
        refine awp_seq ?_
        refine awp_region ?_
        refine sq_plain rfl rfl rfl (w_move rfl (ev_tmp rfl)) ?_
        refine sq_plain rfl rfl rfl (w_assign rfl (ev_tmp rfl)) ?_
        refine sq_nil ?_
        refine awp_ret ?_
        exact retR rfl (rv_tmp' rfl (by first | rfl | exact congrArg AV.str (by unfold tkA tkT tkM tkL; rw [htd]; simp [spc, *]; done) | (exfalso; omega)))
      · intro h35
        have k35 := eq_of_bne_false h35; try simp only [List.length_map] at k35
        refine awp_skip ?_
        refine awp_seq ?_
        refine awp_region ?_
        refine sq_plain rfl rfl rfl (w_move rfl (ev_tmp rfl)) ?_
        refine sq_plain rfl rfl rfl (w_fldBn 3 rfl Tryz.underlying37 rfl Tryz.sizeOf3 (ev_tmp rfl) rfl) ?_
        refine sq_plain rfl rfl rfl (w_loadB1 0 rfl (ev_tmp rfl) rfl Tryz.isAgg3 rfl) ?_
        refine sq_plain rfl rfl rfl (w_call rfl Tryz.call117 rfl (l1NumI_spec r.Lead (by omega)) (evl_cons (ev_tmp rfl) evl_nil)) ?_
        refine sq_plain rfl rfl rfl (w_cat rfl (ev_cs' (l := [32, 62]) rfl) (ev_tmp rfl) (by first | omega | (simp only [List.length_append, List.length_take, List.length_drop, List.length_cons, List.length_nil]; omega))) ?_
        refine sq_plain rfl rfl rfl (w_cat rfl (ev_tmp rfl) (ev_tmp rfl) (by first | omega | (simp only [List.length_append, List.length_take, List.length_drop, List.length_cons, List.length_nil]; omega))) ?_
        refine sq_plain rfl rfl rfl (w_assign rfl (ev_tmp rfl)) ?_
        refine sq_nil ?_
        refine awp_seq ?_
        refine awp_seq ?_
        refine awp_region ?_
        refine sq_plain rfl rfl rfl (w_fldBn 4 rfl Tryz.underlying37 rfl Tryz.sizeOf34 (ev_tmp rfl) rfl) ?_
        refine sq_plain rfl rfl rfl (w_loadB1 0 rfl (ev_tmp rfl) rfl Tryz.isAgg34 rfl) ?_
        refine sq_plain rfl rfl rfl (w_llen rfl Tryz.underlying34 (ev_tmp rfl)) ?_
        refine sq_plain rfl rfl rfl (w_move rfl ev_ci) ?_
        refine sq_nil ?_
        refine awp_block ?_
        refine awp_loop_i [(1, _), (2, _), (44, _), (45, _)] _ (fun (i : Nat) => i ≤ r.Reads.length) (fun (i : Nat) => []) (fun (i : Nat) => [(3, AV.str (preR r i)), (46, AV.int i)]) (fun (i : Nat) => r.Reads.length - i) (0) ?_ (le_env ⟨congrArg (fun z => some (AV.str z)) (by first | (exfalso; omega) | (rw [preR_zero]; unfold tkA tkT tkM tkL; rw [htd]; simp [spc, *]; done)), rfl, rfl, rfl, rfl, rfl, trivial⟩) ?_
        · exact Nat.zero_le _
        intro i hinv
        refine awp_seq ?_
        refine awp_region ?_
        refine sq_plain rfl rfl rfl (w_lss rfl (ev_tmp rfl) (ev_tmp rfl)) ?_
        refine sq_nil ?_
        refine awp_seq ?_
        refine awp_cond (ev_tmp rfl) ?_ ?_
        · intro h47
          have k47 := of_decide_eq_true h47; try simp only [List.length_map] at k47
          have hlt : i < r.Reads.length := by omega
          obtain ⟨x, hx⟩ := get_some hlt
          have hxk := l3KeyR_len (h.reads.2 x (List.mem_of_getElem? hx))
          have hpl := preR_len h i
          refine awp_skip ?_
          refine awp_seq ?_
          refine awp_block ?_
          refine awp_seq ?_
          refine awp_region ?_
          refine sq_plain rfl rfl rfl (w_idxm rfl Tryz.underlying34 Tryz.sizeOf9 (ev_tmp rfl) (ev_tmp rfl) hx (by first | omega | ((try simp only [List.length_map, List.length_take, List.length_cons, List.length_nil, chunks_len, szR] at *); omega) | (have hc2 := hc; simp only [Bool.and_eq_true, Bool.or_eq_true, Bool.or_eq_false_iff, Bool.and_eq_false_iff, Bool.not_eq_true', Bool.not_eq_false', decide_eq_true_eq, decide_eq_false_iff_not, beq_iff_eq, bne_iff_ne, List.length_map, List.length_take] at hc2; omega))) ?_
          refine sq_plain rfl rfl rfl (w_loadE1 rfl (ev_tmp rfl) Tryz.isAgg9 rfl) ?_
          refine sq_plain rfl rfl rfl (w_assign rfl (ev_tmp rfl)) ?_
          refine sq_nil ?_
          refine awp_region ?_
          refine sq_plain rfl rfl rfl (w_move rfl (ev_tmp rfl)) ?_
          refine sq_plain rfl rfl rfl (w_move rfl (ev_tmp rfl)) ?_
          refine sq_plain rfl rfl rfl (w_cat rfl (ev_cs' (l := [32, 63]) rfl) (ev_tmp rfl) (by first | omega | (simp only [List.length_append, List.length_take, List.length_drop, List.length_cons, List.length_nil]; omega))) ?_
          refine sq_plain rfl rfl rfl (w_cat rfl (ev_tmp rfl) (ev_tmp rfl) (by first | omega | (simp only [List.length_append, List.length_take, List.length_drop, List.length_cons, List.length_nil]; omega))) ?_
          refine sq_plain rfl rfl rfl (w_assign rfl (ev_tmp rfl)) ?_
          refine sq_nil ?_
          refine awp_region ?_
          refine sq_plain rfl rfl rfl (w_addi rfl (ev_tmp rfl) ev_ci (by first | omega | ((try simp only [List.length_map, List.length_take, List.length_cons, List.length_nil, chunks_len, szR] at *); omega) | (have hc2 := hc; simp only [Bool.and_eq_true, Bool.or_eq_true, Bool.or_eq_false_iff, Bool.and_eq_false_iff, Bool.not_eq_true', Bool.not_eq_false', decide_eq_true_eq, decide_eq_false_iff_not, beq_iff_eq, bne_iff_ne, List.length_map, List.length_take] at hc2; omega))) ?_
          refine sq_plain rfl rfl rfl (w_move rfl (ev_tmp rfl)) ?_
          refine sq_nil ?_
          refine round_end i (i + 1) ?_ ?_ (le_env ⟨congrArg (fun z => some (AV.str z)) (preR_next hx).symm, rfl, rfl, rfl, rfl, rfl, trivial⟩)
          · omega
          · omega
        · intro h47
          have k47 := of_decide_eq_false h47; try simp only [List.length_map] at k47
          have hge : i = r.Reads.length := by omega
          rw [hge]
          refine awp_exit ?_
          refine awp_seq ?_
          refine awp_seq ?_
          refine awp_region ?_
          refine sq_plain rfl rfl rfl (w_fldBn 5 rfl Tryz.underlying37 rfl Tryz.sizeOf35 (ev_tmp rfl) rfl) ?_
          refine sq_plain rfl rfl rfl (w_loadB1 0 rfl (ev_tmp rfl) rfl Tryz.isAgg35 rfl) ?_
          refine sq_plain rfl rfl rfl (w_llen rfl Tryz.underlying35 (ev_tmp rfl)) ?_
          refine sq_plain rfl rfl rfl (w_move rfl ev_ci) ?_
          refine sq_nil ?_
          refine awp_block ?_
          refine awp_loop_i [(2, _), (56, _), (57, _)] _ (fun (j : Nat) => j ≤ r.Writes.length) (fun (j : Nat) => []) (fun (j : Nat) => [(3, AV.str (preW r j)), (58, AV.int j)]) (fun (j : Nat) => r.Writes.length - j) (0) ?_ (le_env ⟨congrArg (fun z => some (AV.str z)) (preW_zero r).symm, rfl, rfl, rfl, rfl, trivial⟩) ?_
          · exact Nat.zero_le _
          intro j hinv
          refine awp_seq ?_
          refine awp_region ?_
          refine sq_plain rfl rfl rfl (w_lss rfl (ev_tmp rfl) (ev_tmp rfl)) ?_
          refine sq_nil ?_
          refine awp_seq ?_
          refine awp_cond (ev_tmp rfl) ?_ ?_
          · intro h59
            have k59 := of_decide_eq_true h59; try simp only [List.length_map] at k59
            have hlt : j < r.Writes.length := by omega
            obtain ⟨x, hx⟩ := get_some hlt
            have hxg := h.writes.2 x (List.mem_of_getElem? hx)
            have hxk := l3KeyR_len hxg.1
            have hxv := l3ValR_len hxg.2.1
            have hpl := preW_len h j
            refine awp_skip ?_
            refine awp_seq ?_
            refine awp_block ?_
            refine awp_seq ?_
            refine awp_region ?_
            refine sq_plain rfl rfl rfl (w_idxm rfl Tryz.underlying35 Tryz.sizeOf79 (ev_tmp rfl) (ev_tmp rfl) hx (by first | omega | ((try simp only [List.length_map, List.length_take, List.length_cons, List.length_nil, chunks_len, szR] at *); omega) | (have hc2 := hc; simp only [Bool.and_eq_true, Bool.or_eq_true, Bool.or_eq_false_iff, Bool.and_eq_false_iff, Bool.not_eq_true', Bool.not_eq_false', decide_eq_true_eq, decide_eq_false_iff_not, beq_iff_eq, bne_iff_ne, List.length_map, List.length_take] at hc2; omega))) ?_
            refine sq_plain rfl rfl rfl (w_loadE rfl (ev_tmp rfl) Tryz.isAgg79 Tryz.sizeOf79) ?_
            refine sq_alloc rfl rfl rfl rfl Tryz.zeroValue79 rfl ?_
            intro b7
            refine sq_storeB0 0 rfl rfl rfl (ev_tmp rfl) (ev_tmp rfl) (as_agg _) rfl Tryz.sizeOf79 rfl ?_
            refine sq_nil ?_
            refine awp_seq ?_
            refine awp_region ?_
            refine sq_plain rfl rfl rfl (w_move rfl (ev_tmp rfl)) ?_
            refine sq_plain rfl rfl rfl (w_fldBn 0 rfl Tryz.underlying79 rfl Tryz.sizeOf9 (ev_tmp rfl) rfl) ?_
            refine sq_plain rfl rfl rfl (w_loadB1 0 rfl (ev_tmp rfl) rfl Tryz.isAgg9 rfl) ?_
            refine sq_plain rfl rfl rfl (w_cat rfl (ev_cs' (l := [32, 33]) rfl) (ev_tmp rfl) (by first | omega | (simp only [List.length_append, List.length_take, List.length_drop, List.length_cons, List.length_nil]; omega))) ?_
            refine sq_plain rfl rfl rfl (w_cat rfl (ev_tmp rfl) (ev_tmp rfl) (by first | omega | (simp only [List.length_append, List.length_take, List.length_drop, List.length_cons, List.length_nil]; omega))) ?_
            refine sq_plain rfl rfl rfl (w_assign rfl (ev_tmp rfl)) ?_
            refine sq_nil ?_
            refine awp_seq ?_
            refine awp_region ?_
            refine sq_plain rfl rfl rfl (w_fldBn 2 rfl Tryz.underlying79 rfl Tryz.sizeOf4 (ev_tmp rfl) rfl) ?_
            refine sq_plain rfl rfl rfl (w_loadB1 0 rfl (ev_tmp rfl) rfl Tryz.isAgg4 rfl) ?_
            refine sq_nil ?_
            refine awp_cond (ev_tmp rfl) ?_ ?_
            · intro h68
              refine awp_region ?_
              refine sq_plain rfl rfl rfl (w_move rfl (ev_tmp rfl)) ?_
              refine sq_plain rfl rfl rfl (w_cat rfl (ev_tmp rfl) (ev_cs' (l := [45]) rfl) (by first | omega | (simp only [List.length_append, List.length_take, List.length_drop, List.length_cons, List.length_nil]; omega))) ?_
              refine sq_plain rfl rfl rfl (w_assign rfl (ev_tmp rfl)) ?_
              refine sq_nil ?_
              refine awp_region ?_
              refine sq_plain rfl rfl rfl (w_addi rfl (ev_tmp rfl) ev_ci (by first | omega | ((try simp only [List.length_map, List.length_take, List.length_cons, List.length_nil, chunks_len, szR] at *); omega) | (have hc2 := hc; simp only [Bool.and_eq_true, Bool.or_eq_true, Bool.or_eq_false_iff, Bool.and_eq_false_iff, Bool.not_eq_true', Bool.not_eq_false', decide_eq_true_eq, decide_eq_false_iff_not, beq_iff_eq, bne_iff_ne, List.length_map, List.length_take] at hc2; omega))) ?_
              refine sq_plain rfl rfl rfl (w_move rfl (ev_tmp rfl)) ?_
              refine sq_nil ?_
              refine round_end j (j + 1) ?_ ?_ (le_drop 1 ⟨congrArg (fun z => some (AV.str z)) (by first | (rw [preW_nextT hx h68]; simp; done) | (rw [preW_nextF hx h68]; simp; done)), rfl, rfl, rfl, rfl, trivial⟩)
              · omega
              · omega
            · intro h68
              refine awp_region ?_
              refine sq_plain rfl rfl rfl (w_move rfl (ev_tmp rfl)) ?_
              refine sq_plain rfl rfl rfl (w_fldBn 1 rfl Tryz.underlying79 rfl Tryz.sizeOf9 (ev_tmp rfl) rfl) ?_
              refine sq_plain rfl rfl rfl (w_loadB1 0 rfl (ev_tmp rfl) rfl Tryz.isAgg9 rfl) ?_
              refine sq_plain rfl rfl rfl (w_cat rfl (ev_cs' (l := [61]) rfl) (ev_tmp rfl) (by first | omega | (simp only [List.length_append, List.length_take, List.length_drop, List.length_cons, List.length_nil]; omega))) ?_
              refine sq_plain rfl rfl rfl (w_cat rfl (ev_tmp rfl) (ev_tmp rfl) (by first | omega | (simp only [List.length_append, List.length_take, List.length_drop, List.length_cons, List.length_nil]; omega))) ?_
              refine sq_plain rfl rfl rfl (w_assign rfl (ev_tmp rfl)) ?_
              refine sq_nil ?_
              refine awp_region ?_
              refine sq_plain rfl rfl rfl (w_addi rfl (ev_tmp rfl) ev_ci (by first | omega | ((try simp only [List.length_map, List.length_take, List.length_cons, List.length_nil, chunks_len, szR] at *); omega) | (have hc2 := hc; simp only [Bool.and_eq_true, Bool.or_eq_true, Bool.or_eq_false_iff, Bool.and_eq_false_iff, Bool.not_eq_true', Bool.not_eq_false', decide_eq_true_eq, decide_eq_false_iff_not, beq_iff_eq, bne_iff_ne, List.length_map, List.length_take] at hc2; omega))) ?_
              refine sq_plain rfl rfl rfl (w_move rfl (ev_tmp rfl)) ?_
              refine sq_nil ?_
              refine round_end j (j + 1) ?_ ?_ (le_drop 1 ⟨congrArg (fun z => some (AV.str z)) (by first | (rw [preW_nextT hx h68]; simp; done) | (rw [preW_nextF hx h68]; simp; done)), rfl, rfl, rfl, rfl, trivial⟩)
              · omega
              · omega
          · intro h59
            have k59 := of_decide_eq_false h59; try simp only [List.length_map] at k59
            have hge : j = r.Writes.length := by omega
            rw [hge, preW_all]
            refine awp_exit ?_
            refine awp_seq ?_
            refine awp_region ?_
            refine sq_plain rfl rfl rfl (w_move rfl (ev_tmp rfl)) ?_
            refine sq_plain rfl rfl rfl (w_assign rfl (ev_tmp rfl)) ?_
            refine sq_nil ?_
            refine awp_ret ?_
            exact retR rfl (rv_tmp' rfl (by first | rfl | exact congrArg AV.str (by unfold tkA tkT tkM tkL; rw [htd]; simp [spc, *]; done) | (exfalso; omega)))
    · intro h24
      have k24 := of_decide_eq_false h24; try simp only [List.length_map] at k24
      have htd : timedR r = false := htp.symm.trans h24
      refine awp_region ?_
      refine sq_plain rfl rfl rfl (w_move rfl (ev_tmp rfl)) ?_
      refine sq_plain rfl rfl rfl (w_cat rfl (ev_tmp rfl) (ev_cs' (l := [32, 110, 111]) rfl) (by first | omega | (simp only [List.length_append, List.length_take, List.length_drop, List.length_cons, List.length_nil]; omega))) ?_
      refine sq_plain rfl rfl rfl (w_assign rfl (ev_tmp rfl)) ?_
      refine sq_nil ?_
      refine awp_seq ?_
      refine awp_seq ?_
      refine awp_region ?_
      refine sq_plain rfl rfl rfl (w_fldBn 0 rfl Tryz.underlying37 rfl Tryz.sizeOf3 (ev_tmp rfl) rfl) ?_
      refine sq_plain rfl rfl rfl (w_loadB1 0 rfl (ev_tmp rfl) rfl Tryz.isAgg3 rfl) ?_
      refine sq_plain rfl rfl rfl (w_neq rfl (ev_tmp rfl) ev_ci) ?_
      refine sq_nil ?_
      refine awp_cond (ev_tmp rfl) ?_ ?_
      · intro h35
        have k35 := ne_of_bne h35; try simp only [List.length_map] at k35
        rw [recT_short hg (by omega)]
        refine awp_seq ?_
        refine awp_region ?_
        refine sq_plain rfl rfl rfl (w_move rfl (ev_tmp rfl)) ?_
        refine sq_plain rfl rfl rfl (w_assign rfl (ev_tmp rfl)) ?_
        refine sq_nil ?_
        refine awp_ret ?_
        exact retR rfl (rv_tmp' rfl (by first | rfl | exact congrArg AV.str (by unfold tkA tkT tkM tkL; rw [htd]; simp [spc, *]; done) | (exfalso; omega)))
      · intro h35
        have k35 := eq_of_bne_false h35; try simp only [List.length_map] at k35
        refine awp_skip ?_
        refine awp_seq ?_
        refine awp_region ?_
        refine sq_plain rfl rfl rfl (w_move rfl (ev_tmp rfl)) ?_
        refine sq_plain rfl rfl rfl (w_fldBn 3 rfl Tryz.underlying37 rfl Tryz.sizeOf3 (ev_tmp rfl) rfl) ?_
        refine sq_plain rfl rfl rfl (w_loadB1 0 rfl (ev_tmp rfl) rfl Tryz.isAgg3 rfl) ?_
        refine sq_plain rfl rfl rfl (w_call rfl Tryz.call117 rfl (l1NumI_spec r.Lead (by omega)) (evl_cons (ev_tmp rfl) evl_nil)) ?_
        refine sq_plain rfl rfl rfl (w_cat rfl (ev_cs' (l := [32, 62]) rfl) (ev_tmp rfl) (by first | omega | (simp only [List.length_append, List.length_take, List.length_drop, List.length_cons, List.length_nil]; omega))) ?_
        refine sq_plain rfl rfl rfl (w_cat rfl (ev_tmp rfl) (ev_tmp rfl) (by first | omega | (simp only [List.length_append, List.length_take, List.length_drop, List.length_cons, List.length_nil]; omega))) ?_
        refine sq_plain rfl rfl rfl (w_assign rfl (ev_tmp rfl)) ?_
        refine sq_nil ?_
        refine awp_seq ?_
        refine awp_seq ?_
        refine awp_region ?_
        refine sq_plain rfl rfl rfl (w_fldBn 4 rfl Tryz.underlying37 rfl Tryz.sizeOf34 (ev_tmp rfl) rfl) ?_
        refine sq_plain rfl rfl rfl (w_loadB1 0 rfl (ev_tmp rfl) rfl Tryz.isAgg34 rfl) ?_
        refine sq_plain rfl rfl rfl (w_llen rfl Tryz.underlying34 (ev_tmp rfl)) ?_
        refine sq_plain rfl rfl rfl (w_move rfl ev_ci) ?_
        refine sq_nil ?_
        refine awp_block ?_
        refine awp_loop_i [(1, _), (2, _), (44, _), (45, _)] _ (fun (i : Nat) => i ≤ r.Reads.length) (fun (i : Nat) => []) (fun (i : Nat) => [(3, AV.str (preR r i)), (46, AV.int i)]) (fun (i : Nat) => r.Reads.length - i) (0) ?_ (le_env ⟨congrArg (fun z => some (AV.str z)) (by first | (exfalso; omega) | (rw [preR_zero]; unfold tkA tkT tkM tkL; rw [htd]; simp [spc, *]; done)), rfl, rfl, rfl, rfl, rfl, trivial⟩) ?_
        · exact Nat.zero_le _
        intro i hinv
        refine awp_seq ?_
        refine awp_region ?_
        refine sq_plain rfl rfl rfl (w_lss rfl (ev_tmp rfl) (ev_tmp rfl)) ?_
        refine sq_nil ?_
        refine awp_seq ?_
        refine awp_cond (ev_tmp rfl) ?_ ?_
        · intro h47
          have k47 := of_decide_eq_true h47; try simp only [List.length_map] at k47
          have hlt : i < r.Reads.length := by omega
          obtain ⟨x, hx⟩ := get_some hlt
          have hxk := l3KeyR_len (h.reads.2 x (List.mem_of_getElem? hx))
          have hpl := preR_len h i
          refine awp_skip ?_
          refine awp_seq ?_
          refine awp_block ?_
          refine awp_seq ?_
          refine awp_region ?_
          refine sq_plain rfl rfl rfl (w_idxm rfl Tryz.underlying34 Tryz.sizeOf9 (ev_tmp rfl) (ev_tmp rfl) hx (by first | omega | ((try simp only [List.length_map, List.length_take, List.length_cons, List.length_nil, chunks_len, szR] at *); omega) | (have hc2 := hc; simp only [Bool.and_eq_true, Bool.or_eq_true, Bool.or_eq_false_iff, Bool.and_eq_false_iff, Bool.not_eq_true', Bool.not_eq_false', decide_eq_true_eq, decide_eq_false_iff_not, beq_iff_eq, bne_iff_ne, List.length_map, List.length_take] at hc2; omega))) ?_
          refine sq_plain rfl rfl rfl (w_loadE1 rfl (ev_tmp rfl) Tryz.isAgg9 rfl) ?_
          refine sq_plain rfl rfl rfl (w_assign rfl (ev_tmp rfl)) ?_
          refine sq_nil ?_
          refine awp_region ?_
          refine sq_plain rfl rfl rfl (w_move rfl (ev_tmp rfl)) ?_
          refine sq_plain rfl rfl rfl (w_move rfl (ev_tmp rfl)) ?_
          refine sq_plain rfl rfl rfl (w_cat rfl (ev_cs' (l := [32, 63]) rfl) (ev_tmp rfl) (by first | omega | (simp only [List.length_append, List.length_take, List.length_drop, List.length_cons, List.length_nil]; omega))) ?_
          refine sq_plain rfl rfl rfl (w_cat rfl (ev_tmp rfl) (ev_tmp rfl) (by first | omega | (simp only [List.length_append, List.length_take, List.length_drop, List.length_cons, List.length_nil]; omega))) ?_
          refine sq_plain rfl rfl rfl (w_assign rfl (ev_tmp rfl)) ?_
          refine sq_nil ?_
          refine awp_region ?_
          refine sq_plain rfl rfl rfl (w_addi rfl (ev_tmp rfl) ev_ci (by first | omega | ((try simp only [List.length_map, List.length_take, List.length_cons, List.length_nil, chunks_len, szR] at *); omega) | (have hc2 := hc; simp only [Bool.and_eq_true, Bool.or_eq_true, Bool.or_eq_false_iff, Bool.and_eq_false_iff, Bool.not_eq_true', Bool.not_eq_false', decide_eq_true_eq, decide_eq_false_iff_not, beq_iff_eq, bne_iff_ne, List.length_map, List.length_take] at hc2; omega))) ?_
          refine sq_plain rfl rfl rfl (w_move rfl (ev_tmp rfl)) ?_
          refine sq_nil ?_
          refine round_end i (i + 1) ?_ ?_ (le_env ⟨congrArg (fun z => some (AV.str z)) (preR_next hx).symm, rfl, rfl, rfl, rfl, rfl, trivial⟩)
          · omega
          · omega
        · intro h47
          have k47 := of_decide_eq_false h47; try simp only [List.length_map] at k47
          have hge : i = r.Reads.length := by omega
          rw [hge]
          refine awp_exit ?_
          refine awp_seq ?_
          refine awp_seq ?_
          refine awp_region ?_
          refine sq_plain rfl rfl rfl (w_fldBn 5 rfl Tryz.underlying37 rfl Tryz.sizeOf35 (ev_tmp rfl) rfl) ?_
          refine sq_plain rfl rfl rfl (w_loadB1 0 rfl (ev_tmp rfl) rfl Tryz.isAgg35 rfl) ?_
          refine sq_plain rfl rfl rfl (w_llen rfl Tryz.underlying35 (ev_tmp rfl)) ?_
          refine sq_plain rfl rfl rfl (w_move rfl ev_ci) ?_
          refine sq_nil ?_
          refine awp_block ?_
          refine awp_loop_i [(2, _), (56, _), (57, _)] _ (fun (j : Nat) => j ≤ r.Writes.length) (fun (j : Nat) => []) (fun (j : Nat) => [(3, AV.str (preW r j)), (58, AV.int j)]) (fun (j : Nat) => r.Writes.length - j) (0) ?_ (le_env ⟨congrArg (fun z => some (AV.str z)) (preW_zero r).symm, rfl, rfl, rfl, rfl, trivial⟩) ?_
          · exact Nat.zero_le _
          intro j hinv
          refine awp_seq ?_
          refine awp_region ?_
          refine sq_plain rfl rfl rfl (w_lss rfl (ev_tmp rfl) (ev_tmp rfl)) ?_
          refine sq_nil ?_
          refine awp_seq ?_
          refine awp_cond (ev_tmp rfl) ?_ ?_
          · intro h59
            have k59 := of_decide_eq_true h59; try simp only [List.length_map] at k59
            have hlt : j < r.Writes.length := by omega
            obtain ⟨x, hx⟩ := get_some hlt
            have hxg := h.writes.2 x (List.mem_of_getElem? hx)
            have hxk := l3KeyR_len hxg.1
            have hxv := l3ValR_len hxg.2.1
            have hpl := preW_len h j
            refine awp_skip ?_
            refine awp_seq ?_
            refine awp_block ?_
            refine awp_seq ?_
            refine awp_region ?_
            refine sq_plain rfl rfl rfl (w_idxm rfl Tryz.underlying35 Tryz.sizeOf79 (ev_tmp rfl) (ev_tmp rfl) hx (by first | omega | ((try simp only [List.length_map, List.length_take, List.length_cons, List.length_nil, chunks_len, szR] at *); omega) | (have hc2 := hc; simp only [Bool.and_eq_true, Bool.or_eq_true, Bool.or_eq_false_iff, Bool.and_eq_false_iff, Bool.not_eq_true', Bool.not_eq_false', decide_eq_true_eq, decide_eq_false_iff_not, beq_iff_eq, bne_iff_ne, List.length_map, List.length_take] at hc2; omega))) ?_
            refine sq_plain rfl rfl rfl (w_loadE rfl (ev_tmp rfl) Tryz.isAgg79 Tryz.sizeOf79) ?_
            refine sq_alloc rfl rfl rfl rfl Tryz.zeroValue79 rfl ?_
            intro b7
            refine sq_storeB0 0 rfl rfl rfl (ev_tmp rfl) (ev_tmp rfl) (as_agg _) rfl Tryz.sizeOf79 rfl ?_
            refine sq_nil ?_
            refine awp_seq ?_
            refine awp_region ?_
            refine sq_plain rfl rfl rfl (w_move rfl (ev_tmp rfl)) ?_
            refine sq_plain rfl rfl rfl (w_fldBn 0 rfl Tryz.underlying79 rfl Tryz.sizeOf9 (ev_tmp rfl) rfl) ?_
            refine sq_plain rfl rfl rfl (w_loadB1 0 rfl (ev_tmp rfl) rfl Tryz.isAgg9 rfl) ?_
            refine sq_plain rfl rfl rfl (w_cat rfl (ev_cs' (l := [32, 33]) rfl) (ev_tmp rfl) (by first | omega | (simp only [List.length_append, List.length_take, List.length_drop, List.length_cons, List.length_nil]; omega))) ?_
            refine sq_plain rfl rfl rfl (w_cat rfl (ev_tmp rfl) (ev_tmp rfl) (by first | omega | (simp only [List.length_append, List.length_take, List.length_drop, List.length_cons, List.length_nil]; omega))) ?_
            refine sq_plain rfl rfl rfl (w_assign rfl (ev_tmp rfl)) ?_
            refine sq_nil ?_
            refine awp_seq ?_
            refine awp_region ?_
            refine sq_plain rfl rfl rfl (w_fldBn 2 rfl Tryz.underlying79 rfl Tryz.sizeOf4 (ev_tmp rfl) rfl) ?_
            refine sq_plain rfl rfl rfl (w_loadB1 0 rfl (ev_tmp rfl) rfl Tryz.isAgg4 rfl) ?_
            refine sq_nil ?_
            refine awp_cond (ev_tmp rfl) ?_ ?_
            · intro h68
              refine awp_region ?_
              refine sq_plain rfl rfl rfl (w_move rfl (ev_tmp rfl)) ?_
              refine sq_plain rfl rfl rfl (w_cat rfl (ev_tmp rfl) (ev_cs' (l := [45]) rfl) (by first | omega | (simp only [List.length_append, List.length_take, List.length_drop, List.length_cons, List.length_nil]; omega))) ?_
              refine sq_plain rfl rfl rfl (w_assign rfl (ev_tmp rfl)) ?_
              refine sq_nil ?_
              refine awp_region ?_
              refine sq_plain rfl rfl rfl (w_addi rfl (ev_tmp rfl) ev_ci (by first | omega | ((try simp only [List.length_map, List.length_take, List.length_cons, List.length_nil, chunks_len, szR] at *); omega) | (have hc2 := hc; simp only [Bool.and_eq_true, Bool.or_eq_true, Bool.or_eq_false_iff, Bool.and_eq_false_iff, Bool.not_eq_true', Bool.not_eq_false', decide_eq_true_eq, decide_eq_false_iff_not, beq_iff_eq, bne_iff_ne, List.length_map, List.length_take] at hc2; omega))) ?_
              refine sq_plain rfl rfl rfl (w_move rfl (ev_tmp rfl)) ?_
              refine sq_nil ?_
              refine round_end j (j + 1) ?_ ?_ (le_drop 1 ⟨congrArg (fun z => some (AV.str z)) (by first | (rw [preW_nextT hx h68]; simp; done) | (rw [preW_nextF hx h68]; simp; done)), rfl, rfl, rfl, rfl, trivial⟩)
              · omega
              · omega
            · intro h68
              refine awp_region ?_
              refine sq_plain rfl rfl rfl (w_move rfl (ev_tmp rfl)) ?_
              refine sq_plain rfl rfl rfl (w_fldBn 1 rfl Tryz.underlying79 rfl Tryz.sizeOf9 (ev_tmp rfl) rfl) ?_
              refine sq_plain rfl rfl rfl (w_loadB1 0 rfl (ev_tmp rfl) rfl Tryz.isAgg9 rfl) ?_
              refine sq_plain rfl rfl rfl (w_cat rfl (ev_cs' (l := [61]) rfl) (ev_tmp rfl) (by first | omega | (simp only [List.length_append, List.length_take, List.length_drop, List.length_cons, List.length_nil]; omega))) ?_
              refine sq_plain rfl rfl rfl (w_cat rfl (ev_tmp rfl) (ev_tmp rfl) (by first | omega | (simp only [List.length_append, List.length_take, List.length_drop, List.length_cons, List.length_nil]; omega))) ?_
              refine sq_plain rfl rfl rfl (w_assign rfl (ev_tmp rfl)) ?_
              refine sq_nil ?_
              refine awp_region ?_
              refine sq_plain rfl rfl rfl (w_addi rfl (ev_tmp rfl) ev_ci (by first | omega | ((try simp only [List.length_map, List.length_take, List.length_cons, List.length_nil, chunks_len, szR] at *); omega) | (have hc2 := hc; simp only [Bool.and_eq_true, Bool.or_eq_true, Bool.or_eq_false_iff, Bool.and_eq_false_iff, Bool.not_eq_true', Bool.not_eq_false', decide_eq_true_eq, decide_eq_false_iff_not, beq_iff_eq, bne_iff_ne, List.length_map, List.length_take] at hc2; omega))) ?_
              refine sq_plain rfl rfl rfl (w_move rfl (ev_tmp rfl)) ?_
              refine sq_nil ?_
              refine round_end j (j + 1) ?_ ?_ (le_drop 1 ⟨congrArg (fun z => some (AV.str z)) (by first | (rw [preW_nextT hx h68]; simp; done) | (rw [preW_nextF hx h68]; simp; done)), rfl, rfl, rfl, rfl, trivial⟩)
              · omega
              · omega
          · intro h59
            have k59 := of_decide_eq_false h59; try simp only [List.length_map] at k59
            have hge : j = r.Writes.length := by omega
            rw [hge, preW_all]
            refine awp_exit ?_
            refine awp_seq ?_
            refine awp_region ?_
            refine sq_plain rfl rfl rfl (w_move rfl (ev_tmp rfl)) ?_
            refine sq_plain rfl rfl rfl (w_assign rfl (ev_tmp rfl)) ?_
            refine sq_nil ?_
            refine awp_ret ?_
            exact retR rfl (rv_tmp' rfl (by first | rfl | exact congrArg AV.str (by unfold tkA tkT tkM tkL; rw [htd]; simp [spc, *]; done) | (exfalso; omega)))
  · intro h15
    have k15 := eq_of_bne_false h15; try simp only [List.length_map] at k15
    refine awp_skip ?_
    refine awp_seq ?_
    refine awp_seq ?_
    refine awp_region ?_
    refine sq_plain rfl rfl rfl (w_fldBn 2 rfl Tryz.underlying37 rfl Tryz.sizeOf3 (ev_tmp rfl) rfl) ?_
    refine sq_plain rfl rfl rfl (w_loadB1 0 rfl (ev_tmp rfl) rfl Tryz.isAgg3 rfl) ?_
    refine sq_plain rfl rfl rfl (w_gtr rfl (ev_tmp rfl) ev_ci) ?_
    refine sq_nil ?_
    refine awp_cond (ev_tmp rfl) ?_ ?_
    · intro h24
      have k24 := of_decide_eq_true h24; try simp only [List.length_map] at k24
      have htd : timedR r = true := htp.symm.trans h24
      refine awp_region ?_
      refine sq_plain rfl rfl rfl (w_move rfl (ev_tmp rfl)) ?_
      refine sq_plain rfl rfl rfl (w_fldBn 2 rfl Tryz.underlying37 rfl Tryz.sizeOf3 (ev_tmp rfl) rfl) ?_
      refine sq_plain rfl rfl rfl (w_loadB1 0 rfl (ev_tmp rfl) rfl Tryz.isAgg3 rfl) ?_
      refine sq_plain rfl rfl rfl (w_call rfl Tryz.call117 rfl (l1NumI_spec r.Time (by omega)) (evl_cons (ev_tmp rfl) evl_nil)) ?_
      refine sq_plain rfl rfl rfl (w_cat rfl (ev_cs' (l := [32, 64]) rfl) (ev_tmp rfl) (by first | omega | (simp only [List.length_append, List.length_take, List.length_drop, List.length_cons, List.length_nil]; omega))) ?_
      refine sq_plain rfl rfl rfl (w_cat rfl (ev_tmp rfl) (ev_tmp rfl) (by first | omega | (simp only [List.length_append, List.length_take, List.length_drop, List.length_cons, List.length_nil]; omega))) ?_
      refine sq_plain rfl rfl rfl (w_assign rfl (ev_tmp rfl)) ?_
      refine sq_nil ?_
      refine awp_seq ?_
      refine awp_seq ?_
      refine awp_region ?_
      refine sq_plain rfl rfl rfl (w_fldBn 0 rfl Tryz.underlying37 rfl Tryz.sizeOf3 (ev_tmp rfl) rfl) ?_
      refine sq_plain rfl rfl rfl (w_loadB1 0 rfl (ev_tmp rfl) rfl Tryz.isAgg3 rfl) ?_
      refine sq_plain rfl rfl rfl (w_neq rfl (ev_tmp rfl) ev_ci) ?_
      refine sq_nil ?_
      refine awp_cond (ev_tmp rfl) ?_ ?_
      · intro h35
        have k35 := ne_of_bne h35; try simp only [List.length_map] at k35
        rw [recT_short hg (by omega)]
        refine awp_seq ?_
        refine awp_region ?_
        refine sq_plain rfl rfl rfl (w_move rfl (ev_tmp rfl)) ?_
        refine sq_plain rfl rfl rfl (w_assign rfl (ev_tmp rfl)) ?_
        refine sq_nil ?_
        refine awp_ret ?_
        exact retR rfl (rv_tmp' rfl (by first | rfl | exact congrArg AV.str (by unfold tkA tkT tkM tkL; rw [htd]; simp [spc, *]; done) | (exfalso; omega)))
      · intro h35
        have k35 := eq_of_bne_false h35; try simp only [List.length_map] at k35
        refine awp_skip ?_
        refine awp_seq ?_
        refine awp_region ?_
        refine sq_plain rfl rfl rfl (w_move rfl (ev_tmp rfl)) ?_
        refine sq_plain rfl rfl rfl (w_fldBn 3 rfl Tryz.underlying37 rfl Tryz.sizeOf3 (ev_tmp rfl) rfl) ?_
        refine sq_plain rfl rfl rfl (w_loadB1 0 rfl (ev_tmp rfl) rfl Tryz.isAgg3 rfl) ?_
        refine sq_plain rfl rfl rfl (w_call rfl Tryz.call117 rfl (l1NumI_spec r.Lead (by omega)) (evl_cons (ev_tmp rfl) evl_nil)) ?_
        refine sq_plain rfl rfl rfl (w_cat rfl (ev_cs' (l := [32, 62]) rfl) (ev_tmp rfl) (by first | omega | (simp only [List.length_append, List.length_take, List.length_drop, List.length_cons, List.length_nil]; omega))) ?_
        refine sq_plain rfl rfl rfl (w_cat rfl (ev_tmp rfl) (ev_tmp rfl) (by first | omega | (simp only [List.length_append, List.length_take, List.length_drop, List.length_cons, List.length_nil]; omega))) ?_
        refine sq_plain rfl rfl rfl (w_assign rfl (ev_tmp rfl)) ?_
        refine sq_nil ?_
        refine awp_seq ?_
        refine awp_seq ?_
        refine awp_region ?_
        refine sq_plain rfl rfl rfl (w_fldBn 4 rfl Tryz.underlying37 rfl Tryz.sizeOf34 (ev_tmp rfl) rfl) ?_
        refine sq_plain rfl rfl rfl (w_loadB1 0 rfl (ev_tmp rfl) rfl Tryz.isAgg34 rfl) ?_
        refine sq_plain rfl rfl rfl (w_llen rfl Tryz.underlying34 (ev_tmp rfl)) ?_
        refine sq_plain rfl rfl rfl (w_move rfl ev_ci) ?_
        refine sq_nil ?_
        refine awp_block ?_
        refine awp_loop_i [(1, _), (2, _), (44, _), (45, _)] _ (fun (i : Nat) => i ≤ r.Reads.length) (fun (i : Nat) => []) (fun (i : Nat) => [(3, AV.str (preR r i)), (46, AV.int i)]) (fun (i : Nat) => r.Reads.length - i) (0) ?_ (le_env ⟨congrArg (fun z => some (AV.str z)) (by first | (exfalso; omega) | (rw [preR_zero]; unfold tkA tkT tkM tkL; rw [htd]; simp [spc, *]; done)), rfl, rfl, rfl, rfl, rfl, trivial⟩) ?_
        · exact Nat.zero_le _
        intro i hinv
        refine awp_seq ?_
        refine awp_region ?_
        refine sq_plain rfl rfl rfl (w_lss rfl (ev_tmp rfl) (ev_tmp rfl)) ?_
        refine sq_nil ?_
        refine awp_seq ?_
        refine awp_cond (ev_tmp rfl) ?_ ?_
        · intro h47
          have k47 := of_decide_eq_true h47; try simp only [List.length_map] at k47
          have hlt : i < r.Reads.length := by omega
          obtain ⟨x, hx⟩ := get_some hlt
          have hxk := l3KeyR_len (h.reads.2 x (List.mem_of_getElem? hx))
          have hpl := preR_len h i
          refine awp_skip ?_
          refine awp_seq ?_
          refine awp_block ?_
          refine awp_seq ?_
          refine awp_region ?_
          refine sq_plain rfl rfl rfl (w_idxm rfl Tryz.underlying34 Tryz.sizeOf9 (ev_tmp rfl) (ev_tmp rfl) hx (by first | omega | ((try simp only [List.length_map, List.length_take, List.length_cons, List.length_nil, chunks_len, szR] at *); omega) | (have hc2 := hc; simp only [Bool.and_eq_true, Bool.or_eq_true, Bool.or_eq_false_iff, Bool.and_eq_false_iff, Bool.not_eq_true', Bool.not_eq_false', decide_eq_true_eq, decide_eq_false_iff_not, beq_iff_eq, bne_iff_ne, List.length_map, List.length_take] at hc2; omega))) ?_
          refine sq_plain rfl rfl rfl (w_loadE1 rfl (ev_tmp rfl) Tryz.isAgg9 rfl) ?_
          refine sq_plain rfl rfl rfl (w_assign rfl (ev_tmp rfl)) ?_
          refine sq_nil ?_
          refine awp_region ?_
          refine sq_plain rfl rfl rfl (w_move rfl (ev_tmp rfl)) ?_
          refine sq_plain rfl rfl rfl (w_move rfl (ev_tmp rfl)) ?_
          refine sq_plain rfl rfl rfl (w_cat rfl (ev_cs' (l := [32, 63]) rfl) (ev_tmp rfl) (by first | omega | (simp only [List.length_append, List.length_take, List.length_drop, List.length_cons, List.length_nil]; omega))) ?_
          refine sq_plain rfl rfl rfl (w_cat rfl (ev_tmp rfl) (ev_tmp rfl) (by first | omega | (simp only [List.length_append, List.length_take, List.length_drop, List.length_cons, List.length_nil]; omega))) ?_
          refine sq_plain rfl rfl rfl (w_assign rfl (ev_tmp rfl)) ?_
          refine sq_nil ?_
          refine awp_region ?_
          refine sq_plain rfl rfl rfl (w_addi rfl (ev_tmp rfl) ev_ci (by first | omega | ((try simp only [List.length_map, List.length_take, List.length_cons, List.length_nil, chunks_len, szR] at *); omega) | (have hc2 := hc; simp only [Bool.and_eq_true, Bool.or_eq_true, Bool.or_eq_false_iff, Bool.and_eq_false_iff, Bool.not_eq_true', Bool.not_eq_false', decide_eq_true_eq, decide_eq_false_iff_not, beq_iff_eq, bne_iff_ne, List.length_map, List.length_take] at hc2; omega))) ?_
          refine sq_plain rfl rfl rfl (w_move rfl (ev_tmp rfl)) ?_
          refine sq_nil ?_
          refine round_end i (i + 1) ?_ ?_ (le_env ⟨congrArg (fun z => some (AV.str z)) (preR_next hx).symm, rfl, rfl, rfl, rfl, rfl, trivial⟩)
          · omega
          · omega
        · intro h47
          have k47 := of_decide_eq_false h47; try simp only [List.length_map] at k47
          have hge : i = r.Reads.length := by omega
          rw [hge]
          refine awp_exit ?_
          refine awp_seq ?_
          refine awp_seq ?_
          refine awp_region ?_
          refine sq_plain rfl rfl rfl (w_fldBn 5 rfl Tryz.underlying37 rfl Tryz.sizeOf35 (ev_tmp rfl) rfl) ?_
          refine sq_plain rfl rfl rfl (w_loadB1 0 rfl (ev_tmp rfl) rfl Tryz.isAgg35 rfl) ?_
          refine sq_plain rfl rfl rfl (w_llen rfl Tryz.underlying35 (ev_tmp rfl)) ?_
          refine sq_plain rfl rfl rfl (w_move rfl ev_ci) ?_
          refine sq_nil ?_
          refine awp_block ?_
          refine awp_loop_i [(2, _), (56, _), (57, _)] _ (fun (j : Nat) => j ≤ r.Writes.length) (fun (j : Nat) => []) (fun (j : Nat) => [(3, AV.str (preW r j)), (58, AV.int j)]) (fun (j : Nat) => r.Writes.length - j) (0) ?_ (le_env ⟨congrArg (fun z => some (AV.str z)) (preW_zero r).symm, rfl, rfl, rfl, rfl, trivial⟩) ?_
          · exact Nat.zero_le _
          intro j hinv
          refine awp_seq ?_
          refine awp_region ?_
          refine sq_plain rfl rfl rfl (w_lss rfl (ev_tmp rfl) (ev_tmp rfl)) ?_
          refine sq_nil ?_
          refine awp_seq ?_
          refine awp_cond (ev_tmp rfl) ?_ ?_
          · intro h59
            have k59 := of_decide_eq_true h59; try simp only [List.length_map] at k59
            have hlt : j < r.Writes.length := by omega
            obtain ⟨x, hx⟩ := get_some hlt
            have hxg := h.writes.2 x (List.mem_of_getElem? hx)
            have hxk := l3KeyR_len hxg.1
            have hxv := l3ValR_len hxg.2.1
            have hpl := preW_len h j
            refine awp_skip ?_
            refine awp_seq ?_
            refine awp_block ?_
            refine awp_seq ?_
            refine awp_region ?_
            refine sq_plain rfl rfl rfl (w_idxm rfl Tryz.underlying35 Tryz.sizeOf79 (ev_tmp rfl) (ev_tmp rfl) hx (by first | omega | ((try simp only [List.length_map, List.length_take, List.length_cons, List.length_nil, chunks_len, szR] at *); omega) | (have hc2 := hc; simp only [Bool.and_eq_true, Bool.or_eq_true, Bool.or_eq_false_iff, Bool.and_eq_false_iff, Bool.not_eq_true', Bool.not_eq_false', decide_eq_true_eq, decide_eq_false_iff_not, beq_iff_eq, bne_iff_ne, List.length_map, List.length_take] at hc2; omega))) ?_
            refine sq_plain rfl rfl rfl (w_loadE rfl (ev_tmp rfl) Tryz.isAgg79 Tryz.sizeOf79) ?_
            refine sq_alloc rfl rfl rfl rfl Tryz.zeroValue79 rfl ?_
            intro b7
            refine sq_storeB0 0 rfl rfl rfl (ev_tmp rfl) (ev_tmp rfl) (as_agg _) rfl Tryz.sizeOf79 rfl ?_
            refine sq_nil ?_
            refine awp_seq ?_
            refine awp_region ?_
            refine sq_plain rfl rfl rfl (w_move rfl (ev_tmp rfl)) ?_
            refine sq_plain rfl rfl rfl (w_fldBn 0 rfl Tryz.underlying79 rfl Tryz.sizeOf9 (ev_tmp rfl) rfl) ?_
            refine sq_plain rfl rfl rfl (w_loadB1 0 rfl (ev_tmp rfl) rfl Tryz.isAgg9 rfl) ?_
            refine sq_plain rfl rfl rfl (w_cat rfl (ev_cs' (l := [32, 33]) rfl) (ev_tmp rfl) (by first | omega | (simp only [List.length_append, List.length_take, List.length_drop, List.length_cons, List.length_nil]; omega))) ?_
            refine sq_plain rfl rfl rfl (w_cat rfl (ev_tmp rfl) (ev_tmp rfl) (by first | omega | (simp only [List.length_append, List.length_take, List.length_drop, List.length_cons, List.length_nil]; omega))) ?_
            refine sq_plain rfl rfl rfl (w_assign rfl (ev_tmp rfl)) ?_
            refine sq_nil ?_
            refine awp_seq ?_
            refine awp_region ?_
            refine sq_plain rfl rfl rfl (w_fldBn 2 rfl Tryz.underlying79 rfl Tryz.sizeOf4 (ev_tmp rfl) rfl) ?_
            refine sq_plain rfl rfl rfl (w_loadB1 0 rfl (ev_tmp rfl) rfl Tryz.isAgg4 rfl) ?_
            refine sq_nil ?_
            refine awp_cond (ev_tmp rfl) ?_ ?_
            · intro h68
              refine awp_region ?_
              refine sq_plain rfl rfl rfl (w_move rfl (ev_tmp rfl)) ?_
              refine sq_plain rfl rfl rfl (w_cat rfl (ev_tmp rfl) (ev_cs' (l := [45]) rfl) (by first | omega | (simp only [List.length_append, List.length_take, List.length_drop, List.length_cons, List.length_nil]; omega))) ?_
              refine sq_plain rfl rfl rfl (w_assign rfl (ev_tmp rfl)) ?_
              refine sq_nil ?_
              refine awp_region ?_
              refine sq_plain rfl rfl rfl (w_addi rfl (ev_tmp rfl) ev_ci (by first | omega | ((try simp only [List.length_map, List.length_take, List.length_cons, List.length_nil, chunks_len, szR] at *); omega) | (have hc2 := hc; simp only [Bool.and_eq_true, Bool.or_eq_true, Bool.or_eq_false_iff, Bool.and_eq_false_iff, Bool.not_eq_true', Bool.not_eq_false', decide_eq_true_eq, decide_eq_false_iff_not, beq_iff_eq, bne_iff_ne, List.length_map, List.length_take] at hc2; omega))) ?_
              refine sq_plain rfl rfl rfl (w_move rfl (ev_tmp rfl)) ?_
              refine sq_nil ?_
              refine round_end j (j + 1) ?_ ?_ (le_drop 1 ⟨congrArg (fun z => some (AV.str z)) (by first | (rw [preW_nextT hx h68]; simp; done) | (rw [preW_nextF hx h68]; simp; done)), rfl, rfl, rfl, rfl, trivial⟩)
              · omega
              · omega
            · intro h68
              refine awp_region ?_
              refine sq_plain rfl rfl rfl (w_move rfl (ev_tmp rfl)) ?_
              refine sq_plain rfl rfl rfl (w_fldBn 1 rfl Tryz.underlying79 rfl Tryz.sizeOf9 (ev_tmp rfl) rfl) ?_
              refine sq_plain rfl rfl rfl (w_loadB1 0 rfl (ev_tmp rfl) rfl Tryz.isAgg9 rfl) ?_
              refine sq_plain rfl rfl rfl (w_cat rfl (ev_cs' (l := [61]) rfl) (ev_tmp rfl) (by first | omega | (simp only [List.length_append, List.length_take, List.length_drop, List.length_cons, List.length_nil]; omega))) ?_
              refine sq_plain rfl rfl rfl (w_cat rfl (ev_tmp rfl) (ev_tmp rfl) (by first | omega | (simp only [List.length_append, List.length_take, List.length_drop, List.length_cons, List.length_nil]; omega))) ?_
              refine sq_plain rfl rfl rfl (w_assign rfl (ev_tmp rfl)) ?_
              refine sq_nil ?_
              refine awp_region ?_
              refine sq_plain rfl rfl rfl (w_addi rfl (ev_tmp rfl) ev_ci (by first | omega | ((try simp only [List.length_map, List.length_take, List.length_cons, List.length_nil, chunks_len, szR] at *); omega) | (have hc2 := hc; simp only [Bool.and_eq_true, Bool.or_eq_true, Bool.or_eq_false_iff, Bool.and_eq_false_iff, Bool.not_eq_true', Bool.not_eq_false', decide_eq_true_eq, decide_eq_false_iff_not, beq_iff_eq, bne_iff_ne, List.length_map, List.length_take] at hc2; omega))) ?_
              refine sq_plain rfl rfl rfl (w_move rfl (ev_tmp rfl)) ?_
              refine sq_nil ?_
              refine round_end j (j + 1) ?_ ?_ (le_drop 1 ⟨congrArg (fun z => some (AV.str z)) (by first | (rw [preW_nextT hx h68]; simp; done) | (rw [preW_nextF hx h68]; simp; done)), rfl, rfl, rfl, rfl, trivial⟩)
              · omega
              · omega
          · intro h59
            have k59 := of_decide_eq_false h59; try simp only [List.length_map] at k59
            have hge : j = r.Writes.length := by omega
            rw [hge, preW_all]
            refine awp_exit ?_
            refine awp_seq ?_
            refine awp_region ?_
            refine sq_plain rfl rfl rfl (w_move rfl (ev_tmp rfl)) ?_
            refine sq_plain rfl rfl rfl (w_assign rfl (ev_tmp rfl)) ?_
            refine sq_nil ?_
            refine awp_ret ?_
            exact retR rfl (rv_tmp' rfl (by first | rfl | exact congrArg AV.str (by unfold tkA tkT tkM tkL; rw [htd]; simp [spc, *]; done) | (exfalso; omega)))
    · intro h24
      have k24 := of_decide_eq_false h24; try simp only [List.length_map] at k24
      have htd : timedR r = false := htp.symm.trans h24
      refine awp_region ?_
      refine sq_plain rfl rfl rfl (w_move rfl (ev_tmp rfl)) ?_
      refine sq_plain rfl rfl rfl (w_cat rfl (ev_tmp rfl) (ev_cs' (l := [32, 110, 111]) rfl) (by first | omega | (simp only [List.length_append, List.length_take, List.length_drop, List.length_cons, List.length_nil]; omega))) ?_
      refine sq_plain rfl rfl rfl (w_assign rfl (ev_tmp rfl)) ?_
      refine sq_nil ?_
      refine awp_seq ?_
      refine awp_seq ?_
      refine awp_region ?_
      refine sq_plain rfl rfl rfl (w_fldBn 0 rfl Tryz.underlying37 rfl Tryz.sizeOf3 (ev_tmp rfl) rfl) ?_
      refine sq_plain rfl rfl rfl (w_loadB1 0 rfl (ev_tmp rfl) rfl Tryz.isAgg3 rfl) ?_
      refine sq_plain rfl rfl rfl (w_neq rfl (ev_tmp rfl) ev_ci) ?_
      refine sq_nil ?_
      refine awp_cond (ev_tmp rfl) ?_ ?_
      · intro h35
        have k35 := ne_of_bne h35; try simp only [List.length_map] at k35
        rw [recT_short hg (by omega)]
        refine awp_seq ?_
        refine awp_region ?_
        refine sq_plain rfl rfl rfl (w_move rfl (ev_tmp rfl)) ?_
        refine sq_plain rfl rfl rfl (w_assign rfl (ev_tmp rfl)) ?_
        refine sq_nil ?_
        refine awp_ret ?_
        exact retR rfl (rv_tmp' rfl (by first | rfl | exact congrArg AV.str (by unfold tkA tkT tkM tkL; rw [htd]; simp [spc, *]; done) | (exfalso; omega)))
      · intro h35
        have k35 := eq_of_bne_false h35; try simp only [List.length_map] at k35
        refine awp_skip ?_
        refine awp_seq ?_
        refine awp_region ?_
        refine sq_plain rfl rfl rfl (w_move rfl (ev_tmp rfl)) ?_
        refine sq_plain rfl rfl rfl (w_fldBn 3 rfl Tryz.underlying37 rfl Tryz.sizeOf3 (ev_tmp rfl) rfl) ?_
        refine sq_plain rfl rfl rfl (w_loadB1 0 rfl (ev_tmp rfl) rfl Tryz.isAgg3 rfl) ?_
        refine sq_plain rfl rfl rfl (w_call rfl Tryz.call117 rfl (l1NumI_spec r.Lead (by omega)) (evl_cons (ev_tmp rfl) evl_nil)) ?_
        refine sq_plain rfl rfl rfl (w_cat rfl (ev_cs' (l := [32, 62]) rfl) (ev_tmp rfl) (by first | omega | (simp only [List.length_append, List.length_take, List.length_drop, List.length_cons, List.length_nil]; omega))) ?_
        refine sq_plain rfl rfl rfl (w_cat rfl (ev_tmp rfl) (ev_tmp rfl) (by first | omega | (simp only [List.length_append, List.length_take, List.length_drop, List.length_cons, List.length_nil]; omega))) ?_
        refine sq_plain rfl rfl rfl (w_assign rfl (ev_tmp rfl)) ?_
        refine sq_nil ?_
        refine awp_seq ?_
        refine awp_seq ?_
        refine awp_region ?_
        refine sq_plain rfl rfl rfl (w_fldBn 4 rfl Tryz.underlying37 rfl Tryz.sizeOf34 (ev_tmp rfl) rfl) ?_
        refine sq_plain rfl rfl rfl (w_loadB1 0 rfl (ev_tmp rfl) rfl Tryz.isAgg34 rfl) ?_
        refine sq_plain rfl rfl rfl (w_llen rfl Tryz.underlying34 (ev_tmp rfl)) ?_
        refine sq_plain rfl rfl rfl (w_move rfl ev_ci) ?_
        refine sq_nil ?_
        refine awp_block ?_
        refine awp_loop_i [(1, _), (2, _), (44, _), (45, _)] _ (fun (i : Nat) => i ≤ r.Reads.length) (fun (i : Nat) => []) (fun (i : Nat) => [(3, AV.str (preR r i)), (46, AV.int i)]) (fun (i : Nat) => r.Reads.length - i) (0) ?_ (le_env ⟨congrArg (fun z => some (AV.str z)) (by first | (exfalso; omega) | (rw [preR_zero]; unfold tkA tkT tkM tkL; rw [htd]; simp [spc, *]; done)), rfl, rfl, rfl, rfl, rfl, trivial⟩) ?_
        · exact Nat.zero_le _
        intro i hinv
        refine awp_seq ?_
        refine awp_region ?_
        refine sq_plain rfl rfl rfl (w_lss rfl (ev_tmp rfl) (ev_tmp rfl)) ?_
        refine sq_nil ?_
        refine awp_seq ?_
        refine awp_cond (ev_tmp rfl) ?_ ?_
        · intro h47
          have k47 := of_decide_eq_true h47; try simp only [List.length_map] at k47
          have hlt : i < r.Reads.length := by omega
          obtain ⟨x, hx⟩ := get_some hlt
          have hxk := l3KeyR_len (h.reads.2 x (List.mem_of_getElem? hx))
          have hpl := preR_len h i
          refine awp_skip ?_
          refine awp_seq ?_
          refine awp_block ?_
          refine awp_seq ?_
          refine awp_region ?_
          refine sq_plain rfl rfl rfl (w_idxm rfl Tryz.underlying34 Tryz.sizeOf9 (ev_tmp rfl) (ev_tmp rfl) hx (by first | omega | ((try simp only [List.length_map, List.length_take, List.length_cons, List.length_nil, chunks_len, szR] at *); omega) | (have hc2 := hc; simp only [Bool.and_eq_true, Bool.or_eq_true, Bool.or_eq_false_iff, Bool.and_eq_false_iff, Bool.not_eq_true', Bool.not_eq_false', decide_eq_true_eq, decide_eq_false_iff_not, beq_iff_eq, bne_iff_ne, List.length_map, List.length_take] at hc2; omega))) ?_
          refine sq_plain rfl rfl rfl (w_loadE1 rfl (ev_tmp rfl) Tryz.isAgg9 rfl) ?_
          refine sq_plain rfl rfl rfl (w_assign rfl (ev_tmp rfl)) ?_
          refine sq_nil ?_
          refine awp_region ?_
          refine sq_plain rfl rfl rfl (w_move rfl (ev_tmp rfl)) ?_
          refine sq_plain rfl rfl rfl (w_move rfl (ev_tmp rfl)) ?_
          refine sq_plain rfl rfl rfl (w_cat rfl (ev_cs' (l := [32, 63]) rfl) (ev_tmp rfl) (by first | omega | (simp only [List.length_append, List.length_take, List.length_drop, List.length_cons, List.length_nil]; omega))) ?_
          refine sq_plain rfl rfl rfl (w_cat rfl (ev_tmp rfl) (ev_tmp rfl) (by first | omega | (simp only [List.length_append, List.length_take, List.length_drop, List.length_cons, List.length_nil]; omega))) ?_
          refine sq_plain rfl rfl rfl (w_assign rfl (ev_tmp rfl)) ?_
          refine sq_nil ?_
          refine awp_region ?_
          refine sq_plain rfl rfl rfl (w_addi rfl (ev_tmp rfl) ev_ci (by first | omega | ((try simp only [List.length_map, List.length_take, List.length_cons, List.length_nil, chunks_len, szR] at *); omega) | (have hc2 := hc; simp only [Bool.and_eq_true, Bool.or_eq_true, Bool.or_eq_false_iff, Bool.and_eq_false_iff, Bool.not_eq_true', Bool.not_eq_false', decide_eq_true_eq, decide_eq_false_iff_not, beq_iff_eq, bne_iff_ne, List.length_map, List.length_take] at hc2; omega))) ?_
          refine sq_plain rfl rfl rfl (w_move rfl (ev_tmp rfl)) ?_
          refine sq_nil ?_
          refine round_end i (i + 1) ?_ ?_ (le_env ⟨congrArg (fun z => some (AV.str z)) (preR_next hx).symm, rfl, rfl, rfl, rfl, rfl, trivial⟩)
          · omega
          · omega
        · intro h47
          have k47 := of_decide_eq_false h47; try simp only [List.length_map] at k47
          have hge : i = r.Reads.length := by omega
          rw [hge]
          refine awp_exit ?_
          refine awp_seq ?_
          refine awp_seq ?_
          refine awp_region ?_
          refine sq_plain rfl rfl rfl (w_fldBn 5 rfl Tryz.underlying37 rfl Tryz.sizeOf35 (ev_tmp rfl) rfl) ?_
          refine sq_plain rfl rfl rfl (w_loadB1 0 rfl (ev_tmp rfl) rfl Tryz.isAgg35 rfl) ?_
          refine sq_plain rfl rfl rfl (w_llen rfl Tryz.underlying35 (ev_tmp rfl)) ?_
          refine sq_plain rfl rfl rfl (w_move rfl ev_ci) ?_
          refine sq_nil ?_
          refine awp_block ?_
          refine awp_loop_i [(2, _), (56, _), (57, _)] _ (fun (j : Nat) => j ≤ r.Writes.length) (fun (j : Nat) => []) (fun (j : Nat) => [(3, AV.str (preW r j)), (58, AV.int j)]) (fun (j : Nat) => r.Writes.length - j) (0) ?_ (le_env ⟨congrArg (fun z => some (AV.str z)) (preW_zero r).symm, rfl, rfl, rfl, rfl, trivial⟩) ?_
          · exact Nat.zero_le _
          intro j hinv
          refine awp_seq ?_
          refine awp_region ?_
          refine sq_plain rfl rfl rfl (w_lss rfl (ev_tmp rfl) (ev_tmp rfl)) ?_
          refine sq_nil ?_
          refine awp_seq ?_
          refine awp_cond (ev_tmp rfl) ?_ ?_
          · intro h59
            have k59 := of_decide_eq_true h59; try simp only [List.length_map] at k59
            have hlt : j < r.Writes.length := by omega
            obtain ⟨x, hx⟩ := get_some hlt
            have hxg := h.writes.2 x (List.mem_of_getElem? hx)
            have hxk := l3KeyR_len hxg.1
            have hxv := l3ValR_len hxg.2.1
            have hpl := preW_len h j
            refine awp_skip ?_
            refine awp_seq ?_
            refine awp_block ?_
            refine awp_seq ?_
            refine awp_region ?_
            refine sq_plain rfl rfl rfl (w_idxm rfl Tryz.underlying35 Tryz.sizeOf79 (ev_tmp rfl) (ev_tmp rfl) hx (by first | omega | ((try simp only [List.length_map, List.length_take, List.length_cons, List.length_nil, chunks_len, szR] at *); omega) | (have hc2 := hc; simp only [Bool.and_eq_true, Bool.or_eq_true, Bool.or_eq_false_iff, Bool.and_eq_false_iff, Bool.not_eq_true', Bool.not_eq_false', decide_eq_true_eq, decide_eq_false_iff_not, beq_iff_eq, bne_iff_ne, List.length_map, List.length_take] at hc2; omega))) ?_
            refine sq_plain rfl rfl rfl (w_loadE rfl (ev_tmp rfl) Tryz.isAgg79 Tryz.sizeOf79) ?_
            refine sq_alloc rfl rfl rfl rfl Tryz.zeroValue79 rfl ?_
            intro b7
            refine sq_storeB0 0 rfl rfl rfl (ev_tmp rfl) (ev_tmp rfl) (as_agg _) rfl Tryz.sizeOf79 rfl ?_
            refine sq_nil ?_
            refine awp_seq ?_
            refine awp_region ?_
            refine sq_plain rfl rfl rfl (w_move rfl (ev_tmp rfl)) ?_
            refine sq_plain rfl rfl rfl (w_fldBn 0 rfl Tryz.underlying79 rfl Tryz.sizeOf9 (ev_tmp rfl) rfl) ?_
            refine sq_plain rfl rfl rfl (w_loadB1 0 rfl (ev_tmp rfl) rfl Tryz.isAgg9 rfl) ?_
            refine sq_plain rfl rfl rfl (w_cat rfl (ev_cs' (l := [32, 33]) rfl) (ev_tmp rfl) (by first | omega | (simp only [List.length_append, List.length_take, List.length_drop, List.length_cons, List.length_nil]; omega))) ?_
            refine sq_plain rfl rfl rfl (w_cat rfl (ev_tmp rfl) (ev_tmp rfl) (by first | omega | (simp only [List.length_append, List.length_take, List.length_drop, List.length_cons, List.length_nil]; omega))) ?_
            refine sq_plain rfl rfl rfl (w_assign rfl (ev_tmp rfl)) ?_
            refine sq_nil ?_
            refine awp_seq ?_
            refine awp_region ?_
            refine sq_plain rfl rfl rfl (w_fldBn 2 rfl Tryz.underlying79 rfl Tryz.sizeOf4 (ev_tmp rfl) rfl) ?_
            refine sq_plain rfl rfl rfl (w_loadB1 0 rfl (ev_tmp rfl) rfl Tryz.isAgg4 rfl) ?_
            refine sq_nil ?_
            refine awp_cond (ev_tmp rfl) ?_ ?_
            · intro h68
              refine awp_region ?_
              refine sq_plain rfl rfl rfl (w_move rfl (ev_tmp rfl)) ?_
              refine sq_plain rfl rfl rfl (w_cat rfl (ev_tmp rfl) (ev_cs' (l := [45]) rfl) (by first | omega | (simp only [List.length_append, List.length_take, List.length_drop, List.length_cons, List.length_nil]; omega))) ?_
              refine sq_plain rfl rfl rfl (w_assign rfl (ev_tmp rfl)) ?_
              refine sq_nil ?_
              refine awp_region ?_
              refine sq_plain rfl rfl rfl (w_addi rfl (ev_tmp rfl) ev_ci (by first | omega | ((try simp only [List.length_map, List.length_take, List.length_cons, List.length_nil, chunks_len, szR] at *); omega) | (have hc2 := hc; simp only [Bool.and_eq_true, Bool.or_eq_true, Bool.or_eq_false_iff, Bool.and_eq_false_iff, Bool.not_eq_true', Bool.not_eq_false', decide_eq_true_eq, decide_eq_false_iff_not, beq_iff_eq, bne_iff_ne, List.length_map, List.length_take] at hc2; omega))) ?_
              refine sq_plain rfl rfl rfl (w_move rfl (ev_tmp rfl)) ?_
              refine sq_nil ?_
              refine round_end j (j + 1) ?_ ?_ (le_drop 1 ⟨congrArg (fun z => some (AV.str z)) (by first | (rw [preW_nextT hx h68]; simp; done) | (rw [preW_nextF hx h68]; simp; done)), rfl, rfl, rfl, rfl, trivial⟩)
              · omega
              · omega
            · intro h68
              refine awp_region ?_
              refine sq_plain rfl rfl rfl (w_move rfl (ev_tmp rfl)) ?_
              refine sq_plain rfl rfl rfl (w_fldBn 1 rfl Tryz.underlying79 rfl Tryz.sizeOf9 (ev_tmp rfl) rfl) ?_
              refine sq_plain rfl rfl rfl (w_loadB1 0 rfl (ev_tmp rfl) rfl Tryz.isAgg9 rfl) ?_
              refine sq_plain rfl rfl rfl (w_cat rfl (ev_cs' (l := [61]) rfl) (ev_tmp rfl) (by first | omega | (simp only [List.length_append, List.length_take, List.length_drop, List.length_cons, List.length_nil]; omega))) ?_
              refine sq_plain rfl rfl rfl (w_cat rfl (ev_tmp rfl) (ev_tmp rfl) (by first | omega | (simp only [List.length_append, List.length_take, List.length_drop, List.length_cons, List.length_nil]; omega))) ?_
              refine sq_plain rfl rfl rfl (w_assign rfl (ev_tmp rfl)) ?_
              refine sq_nil ?_
              refine awp_region ?_
              refine sq_plain rfl rfl rfl (w_addi rfl (ev_tmp rfl) ev_ci (by first | omega | ((try simp only [List.length_map, List.length_take, List.length_cons, List.length_nil, chunks_len, szR] at *); omega) | (have hc2 := hc; simp only [Bool.and_eq_true, Bool.or_eq_true, Bool.or_eq_false_iff, Bool.and_eq_false_iff, Bool.not_eq_true', Bool.not_eq_false', decide_eq_true_eq, decide_eq_false_iff_not, beq_iff_eq, bne_iff_ne, List.length_map, List.length_take] at hc2; omega))) ?_
              refine sq_plain rfl rfl rfl (w_move rfl (ev_tmp rfl)) ?_
              refine sq_nil ?_
              refine round_end j (j + 1) ?_ ?_ (le_drop 1 ⟨congrArg (fun z => some (AV.str z)) (by first | (rw [preW_nextT hx h68]; simp; done) | (rw [preW_nextF hx h68]; simp; done)), rfl, rfl, rfl, rfl, trivial⟩)
              · omega
              · omega
          · intro h59
            have k59 := of_decide_eq_false h59; try simp only [List.length_map] at k59
            have hge : j = r.Writes.length := by omega
            rw [hge, preW_all]
            refine awp_exit ?_
            refine awp_seq ?_
            refine awp_region ?_
            refine sq_plain rfl rfl rfl (w_move rfl (ev_tmp rfl)) ?_
            refine sq_plain rfl rfl rfl (w_assign rfl (ev_tmp rfl)) ?_
            refine sq_nil ?_
            refine awp_ret ?_
            exact retR rfl (rv_tmp' rfl (by first | rfl | exact congrArg AV.str (by unfold tkA tkT tkM tkL; rw [htd]; simp [spc, *]; done) | (exfalso; omega)))
theorem recTextS_spec (r : TRec) (hs : r.size ≤ 1048576) : FSpec Tryz.prog 20 [AV.agg r.cs] (AV.tup [AV.str (recTextR r).1, AV.bool (recTextR r).2]) := by
  refine spec_of_awp Tryz.func20 rfl Tryz.ntmps20 rfl ?_
  refine awp_seq ?_
  refine awp_region ?_
  refine sq_box rfl rfl rfl rfl (ev_tmp rfl) ?_
  intro b1
  refine sq_plain rfl rfl rfl (w_assign rfl (ev_cs' (l := []) rfl)) ?_
  refine sq_plain rfl rfl rfl (w_assign rfl ev_cb) ?_
  refine sq_nil ?_
  refine awp_seq ?_
  refine awp_seq ?_
  refine awp_region ?_
  refine sq_plain rfl rfl rfl (w_loadA 0 rfl (ev_tmp rfl) rfl Tryz.isAgg37 Tryz.sizeOf37 rfl) ?_
  refine sq_plain rfl rfl rfl (w_call rfl Tryz.call56 rfl (l4Good_spec _ (by first | assumption | omega)) (evl_cons (ev_tmp rfl) evl_nil)) ?_
  refine sq_plain rfl rfl rfl (w_not rfl (ev_tmp rfl)) ?_
  refine sq_nil ?_
  refine awp_cond (ev_tmp rfl) ?_ ?_
  · intro h6
    have he : recTextR r = ([], false) := if_neg (by rw [goodRec_eq]; simpa using h6)
    rw [he]
    refine awp_seq ?_
    refine awp_region ?_
    refine sq_plain rfl rfl rfl (w_assign rfl (ev_cs' (l := []) rfl)) ?_
    refine sq_plain rfl rfl rfl (w_assign rfl ev_cb) ?_
    refine sq_nil ?_
    refine awp_ret ?_
    exact retN rfl (by decide) (rv_cons (rv_tmp' rfl (by rfl)) (rv_cons (rv_tmp' rfl (by rfl)) rv_nil))
  · intro h6
    have hg : goodRec r = true := by (rw [goodRec_eq]; simpa using h6)
    have he : recTextR r = (recT r, true) := if_pos hg
    rw [he]
    refine awp_skip ?_
    refine awp_seq ?_
    refine awp_region ?_
    refine sq_plain rfl rfl rfl (w_loadA 0 rfl (ev_tmp rfl) rfl Tryz.isAgg37 Tryz.sizeOf37 rfl) ?_
    refine sq_plain rfl rfl rfl (w_call rfl Tryz.call59 rfl (l4Text_spec _ (by first | assumption | omega)) (evl_cons (ev_tmp rfl) evl_nil)) ?_
    refine sq_plain rfl rfl rfl (w_assign rfl (ev_tmp rfl)) ?_
    refine sq_plain rfl rfl rfl (w_assign rfl ev_cb) ?_
    refine sq_nil ?_
    refine awp_ret ?_
    exact retN rfl (by decide) (rv_cons (rv_tmp' rfl (by rfl)) (rv_cons (rv_tmp' rfl (by rfl)) rv_nil))
end Go.Proofs.YtmlmmgeadombbaaGreatDoor

set_option linter.unusedVariables false
set_option linter.unusedSimpArgs false
set_option maxRecDepth 100000
set_option maxHeartbeats 1000000
namespace Go.M
open Go.AV
end Go.M
namespace Go.Proofs.YtmlmmgeadombbaaGreatDoor
open Go Go.AV Go.M
attribute [local irreducible] OpW OpA OpS AWP FSpec ESpec GSpec OpE RetOk RetOkG RvDen Le Ev GuardIs SrcIs Int.tmod Int.tdiv IntKind.wrap
end Go.Proofs.YtmlmmgeadombbaaGreatDoor

set_option linter.unusedVariables false
set_option linter.unusedSimpArgs false
namespace Go.M
open Go.AV
end Go.M

set_option linter.unusedVariables false
set_option linter.unusedSimpArgs false
set_option maxRecDepth 100000
set_option maxHeartbeats 1000000
namespace Go.M
open Go.AV
end Go.M
namespace Go.AV
section
variable {P : Program} {G : Nat → Prop} {n : Nat} {own : List Own}
end
end Go.AV
namespace Go.Proofs.YtmlmmgeadombbaaGreatDoor
open Go Go.AV Go.M
attribute [local irreducible] OpW OpA OpS AWP FSpec ESpec GSpec OpE RetOk RetOkG RvDen Le Ev GuardIs SrcIs Int.tmod Int.tdiv IntKind.wrap
end Go.Proofs.YtmlmmgeadombbaaGreatDoor

set_option linter.unusedVariables false
set_option linter.unusedSimpArgs false
set_option maxRecDepth 100000
set_option maxHeartbeats 2000000
namespace Go.M
open Go.AV
theorem wordI_no (c : TRec) : wordI c [110, 111] = (c, true) := rfl
theorem wordI_nil (c : TRec) : wordI c [] = (c, false) := rfl
theorem byte_is {b : UInt8} (c : UInt8) (h : ((b.toNat : Int) == (c.toNat : Int)) = true) : b = c := UInt8.toNat_inj.1 (by have := eq_of_beq h; omega)
theorem byte_not {b : UInt8} (c : UInt8) (h : ((b.toNat : Int) == (c.toNat : Int)) = false) : ¬ b = c := fun e => by rw [e] at h; simp at h
theorem wordI_cons (c : TRec) (b : UInt8) (s : Str) (h : ¬ b :: s = [110, 111]) : wordI c (b :: s) = if b = 64 then (setTime c (readI s 1 100000).1, (readI s 1 100000).2) else if b = 62 then (setLead c (readI s 0 3).1, (readI s 0 3).2) else if b = 63 then (addRead c s, true) else if b = 33 then (addWrite c (wrI s), true) else (setTxn c (readI (b :: s) 1 60).1, (readI (b :: s) 1 60).2) := if_neg h
end Go.M
namespace Go.Proofs.YtmlmmgeadombbaaGreatDoor
open Go Go.AV Go.M
attribute [local irreducible] OpW OpA OpS AWP FSpec ESpec GSpec OpE RetOk RetOkG RvDen Le Ev GuardIs SrcIs Int.tmod Int.tdiv IntKind.wrap
theorem readWord_own (b : Nat) (c : TRec) (x : Value × Value) (w : Str) (hs : w.length ≤ 1048576) (hr : c.Reads.length ≤ 1000) (hw : c.Writes.length ≤ 1000) : GSpec Tryz.prog 71 [AV.ptr b 0, AV.wt readW (AV.str w)] (.box b 37 (TRec.ocs c x) :: TRec.ow c x) (fun _ : Value × Value => True) (fun y => .box b 37 (TRec.ocs (wordI c w).1 y) :: TRec.ow (wordI c w).1 y) (fun y => AV.bool (wordI c w).2) := by
  refine gspec_of_awp Tryz.func71 rfl Tryz.ntmps71 rfl ?_
  refine AWP.le (le_tab (t := 1) rfl) ?_
  refine awp_seq ?_
  refine awp_region ?_
  refine sq_plain rfl rfl rfl (w_assign rfl ev_cb) ?_
  refine sq_nil ?_
  refine awp_seq ?_
  refine awp_seq ?_
  refine awp_region ?_
  refine sq_plain rfl rfl rfl (w_move rfl (ev_tmp rfl)) ?_
  refine sq_plain rfl rfl rfl (w_seql rfl (ev_tmp rfl) (ev_cs' (l := [110, 111]) rfl)) ?_
  refine sq_nil ?_
  refine awp_cond (ev_tmp rfl) ?_ ?_
  · intro h11
    have he : wordI c w = (c, true) := (congrArg (wordI c) (eq_of_beq h11)).trans (wordI_no c)
    rw [he]
    refine awp_seq ?_
    refine awp_region ?_
    refine sq_plain rfl rfl rfl (w_assign rfl ev_cb) ?_
    refine sq_nil ?_
    refine awp_ret ?_
    exact retG [1, 1, 1] (x.1, x.2) (trivial) rfl (by first | rfl | (show _ = [_, Own.arr _ _ _ _, Own.arr _ _ _ _]; unfold TRec.ow addRead; dsimp only; rw [List.map_append]; rfl) | (show _ = [_, Own.arr _ _ _ _, Own.arr _ _ _ _]; unfold TRec.ow addWrite; dsimp only; rw [List.map_append]; rfl)) (resR rfl (rv_tmp' rfl (by first | rfl | exact congrArg AV.bool (by simp))))
  · intro h11
    refine awp_skip ?_
    refine awp_seq ?_
    refine awp_seq ?_
    refine awp_region ?_
    refine sq_plain rfl rfl rfl (w_move rfl (ev_tmp rfl)) ?_
    refine sq_plain rfl rfl rfl (w_seql rfl (ev_tmp rfl) (ev_cs' (l := []) rfl)) ?_
    refine sq_nil ?_
    refine awp_cond (ev_tmp rfl) ?_ ?_
    · intro h13
      have he : wordI c w = (c, false) := (congrArg (wordI c) (eq_of_beq h13)).trans (wordI_nil c)
      rw [he]
      refine awp_seq ?_
      refine awp_region ?_
      refine sq_plain rfl rfl rfl (w_assign rfl ev_cb) ?_
      refine sq_nil ?_
      refine awp_ret ?_
      exact retG [1, 1, 1] (x.1, x.2) (trivial) rfl (by first | rfl | (show _ = [_, Own.arr _ _ _ _, Own.arr _ _ _ _]; unfold TRec.ow addRead; dsimp only; rw [List.map_append]; rfl) | (show _ = [_, Own.arr _ _ _ _, Own.arr _ _ _ _]; unfold TRec.ow addWrite; dsimp only; rw [List.map_append]; rfl)) (resR rfl (rv_tmp' rfl (by first | rfl | exact congrArg AV.bool (by simp))))
    · intro h13
      obtain ⟨y0, s0, hw0⟩ : ∃ y0 s0, w = y0 :: s0 := (by cases w with | nil => exact absurd rfl (beq_eq_false_iff_ne.1 h13) | cons a b => exact ⟨a, b, rfl⟩)
      subst hw0
      have hno : ¬ y0 :: s0 = [110, 111] := beq_eq_false_iff_ne.1 h11
      have hW := wordI_cons c y0 s0 hno
      rw [hW]
      have hsl : s0.length ≤ 1048576 := (by rw [List.length_cons] at hs; omega)
      refine awp_skip ?_
      refine awp_seq ?_
      refine awp_region ?_
      refine sq_plain rfl rfl rfl (w_assign rfl ev_cb) ?_
      refine sq_nil ?_
      refine awp_seq ?_
      refine awp_seq ?_
      refine awp_region ?_
      refine sq_plain rfl rfl rfl (w_move rfl (ev_tmp rfl)) ?_
      refine sq_plain rfl rfl rfl (w_ssl_lo rfl Tryz.underlying9 (ev_tmp rfl) ev_ci (by simp) (by rw [List.length_cons]; omega)) ?_
      refine sq_plain rfl rfl rfl (w_assign rfl (ev_tmp rfl)) ?_
      refine sq_nil ?_
      refine awp_seq ?_
      refine awp_region ?_
      refine sq_plain rfl rfl rfl (w_move rfl (ev_tmp rfl)) ?_
      refine sq_plain rfl rfl rfl (w_sidx rfl Tryz.underlying9 (ev_tmp rfl) ev_ci (by simp) rfl) ?_
      refine sq_nil ?_
      refine awp_block ?_
      refine awp_seq ?_
      refine awp_region ?_
      refine sq_plain rfl rfl rfl (w_eql rfl (ev_tmp rfl) ev_ci) ?_
      refine sq_plain rfl rfl rfl (w_assign rfl (ev_tmp rfl)) ?_
      refine sq_nil ?_
      refine awp_cond (ev_tmp rfl) ?_ ?_
      · intro h26
        have k26 := eq_of_beqt h26; try simp only [List.length_map] at k26
        rw [if_pos (byte_is 64 h26)]
        refine awp_seq ?_
        refine awp_region ?_
        refine sq_plain rfl rfl rfl (w_move rfl (ev_tmp rfl)) ?_
        refine sq_plain rfl rfl rfl (w_move rfl (ev_tmp rfl)) ?_
        refine sq_plain rfl rfl rfl (w_callT 0 rfl rfl Tryz.call46 rfl (readInt_spec s0 1 100000 hsl) (evl_cons (ev_tmp rfl) (evl_cons ev_ci (evl_cons ev_ci evl_nil))) (by first | exact fun _ h => h | exact fun _ h => h.1)) ?_
        refine sq_plain rfl rfl rfl (w_move rfl (ev_tmp rfl)) ?_
        refine sq_plain rfl rfl rfl (w_extract rfl (ev_tmp rfl) rfl) ?_
        refine sq_plain rfl rfl rfl (w_extract rfl (ev_tmp rfl) rfl) ?_
        refine sq_plain rfl rfl rfl (w_nilB rfl (ev_tmp rfl)) ?_
        refine sq_plain rfl rfl rfl (w_fldBn 2 rfl Tryz.underlying37 rfl Tryz.sizeOf3 (ev_tmp rfl) rfl) ?_
        refine sq_storeB1 1 rfl rfl rfl (ev_tmp rfl) (ev_tmp rfl) (as_ik _ _) rfl Tryz.sizeOf3 rfl ?_
        refine sq_plain rfl rfl rfl (w_assign rfl (ev_tmp rfl)) ?_
        refine sq_nil ?_
        refine awp_region ?_
        refine sq_plain rfl rfl rfl (w_move rfl (ev_tmp rfl)) ?_
        refine sq_plain rfl rfl rfl (w_move rfl (ev_tmp rfl)) ?_
        refine sq_plain rfl rfl rfl (w_nilB rfl (ev_tmp rfl)) ?_
        refine sq_plain rfl rfl rfl (w_fldBn 0 rfl Tryz.underlying37 rfl Tryz.sizeOf3 (ev_tmp rfl) rfl) ?_
        refine sq_plain rfl rfl rfl (w_loadB1 1 rfl (ev_tmp rfl) rfl Tryz.isAgg3 rfl) ?_
        refine sq_plain rfl rfl rfl (w_eql rfl (ev_tmp rfl) ev_ci) ?_
        refine sq_plain rfl rfl rfl (w_move rfl (ev_tmp rfl)) ?_
        refine sq_grd rfl rfl (guard_f rfl rfl rfl) (fun hc => w_move rfl (ev_tmp rfl)) ?_
        refine sq_grd rfl rfl (guard_f rfl rfl rfl) (fun hc => w_nilB rfl (ev_whn rfl hc)) ?_
        refine sq_grd rfl rfl (guard_f rfl rfl rfl) (fun hc => w_fldBn 0 rfl Tryz.underlying37 rfl Tryz.sizeOf3 (ev_whn rfl hc) rfl) ?_
        refine sq_grd rfl rfl (guard_f rfl rfl rfl) (fun hc => w_loadB1 1 rfl (ev_whn rfl hc) rfl Tryz.isAgg3 rfl) ?_
        refine sq_grd rfl rfl (guard_f rfl rfl rfl) (fun hc => w_eql rfl (ev_whn rfl hc) ev_ci) ?_
        refine sq_plain rfl rfl rfl (w_or rfl (ev_tmp rfl) (evif_w rfl)) ?_
        refine sq_plain rfl rfl rfl (w_nilB rfl (ev_tmp rfl)) ?_
        refine sq_plain rfl rfl rfl (w_fldBn 6 rfl Tryz.underlying37 rfl Tryz.sizeOf4 (ev_tmp rfl) rfl) ?_
        refine sq_storeB1 1 rfl rfl rfl (ev_tmp rfl) (ev_tmp rfl) (as_bool _) rfl Tryz.sizeOf4 rfl ?_
        refine sq_nil ?_
        refine awp_seq ?_
        refine awp_region ?_
        refine sq_plain rfl rfl rfl (w_move rfl (ev_tmp rfl)) ?_
        refine sq_plain rfl rfl rfl (w_assign rfl (ev_tmp rfl)) ?_
        refine sq_nil ?_
        refine awp_ret ?_
        exact retG [1, 1, 1] (x.1, x.2) (trivial) rfl (by first | rfl | (show _ = [_, Own.arr _ _ _ _, Own.arr _ _ _ _]; unfold TRec.ow addRead; dsimp only; rw [List.map_append]; rfl) | (show _ = [_, Own.arr _ _ _ _, Own.arr _ _ _ _]; unfold TRec.ow addWrite; dsimp only; rw [List.map_append]; rfl)) (resR rfl (rv_tmp' rfl (by first | rfl | exact congrArg AV.bool (by simp))))
      · intro h26
        have k26 := ne_of_beqf h26; try simp only [List.length_map] at k26
        rw [if_neg (byte_not 64 h26)]
        refine awp_seq ?_
        refine awp_region ?_
        refine sq_plain rfl rfl rfl (w_eql rfl (ev_tmp rfl) ev_ci) ?_
        refine sq_plain rfl rfl rfl (w_assign rfl (ev_tmp rfl)) ?_
        refine sq_nil ?_
        refine awp_cond (ev_tmp rfl) ?_ ?_
        · intro h51
          have k51 := eq_of_beqt h51; try simp only [List.length_map] at k51
          rw [if_pos (byte_is 62 h51)]
          refine awp_region ?_
          refine sq_plain rfl rfl rfl (w_move rfl (ev_tmp rfl)) ?_
          refine sq_plain rfl rfl rfl (w_move rfl (ev_tmp rfl)) ?_
          refine sq_plain rfl rfl rfl (w_callT 0 rfl rfl Tryz.call46 rfl (readInt_spec s0 0 3 hsl) (evl_cons (ev_tmp rfl) (evl_cons ev_ci (evl_cons ev_ci evl_nil))) (by first | exact fun _ h => h | exact fun _ h => h.1)) ?_
          refine sq_plain rfl rfl rfl (w_move rfl (ev_tmp rfl)) ?_
          refine sq_plain rfl rfl rfl (w_extract rfl (ev_tmp rfl) rfl) ?_
          refine sq_plain rfl rfl rfl (w_extract rfl (ev_tmp rfl) rfl) ?_
          refine sq_plain rfl rfl rfl (w_nilB rfl (ev_tmp rfl)) ?_
          refine sq_plain rfl rfl rfl (w_fldBn 3 rfl Tryz.underlying37 rfl Tryz.sizeOf3 (ev_tmp rfl) rfl) ?_
          refine sq_storeB1 1 rfl rfl rfl (ev_tmp rfl) (ev_tmp rfl) (as_ik _ _) rfl Tryz.sizeOf3 rfl ?_
          refine sq_plain rfl rfl rfl (w_assign rfl (ev_tmp rfl)) ?_
          refine sq_nil ?_
          refine awp_seq ?_
          refine awp_region ?_
          refine sq_plain rfl rfl rfl (w_move rfl (ev_tmp rfl)) ?_
          refine sq_plain rfl rfl rfl (w_assign rfl (ev_tmp rfl)) ?_
          refine sq_nil ?_
          refine awp_ret ?_
          exact retG [1, 1, 1] (x.1, x.2) (trivial) rfl (by first | rfl | (show _ = [_, Own.arr _ _ _ _, Own.arr _ _ _ _]; unfold TRec.ow addRead; dsimp only; rw [List.map_append]; rfl) | (show _ = [_, Own.arr _ _ _ _, Own.arr _ _ _ _]; unfold TRec.ow addWrite; dsimp only; rw [List.map_append]; rfl)) (resR rfl (rv_tmp' rfl (by first | rfl | exact congrArg AV.bool (by simp))))
        · intro h51
          have k51 := ne_of_beqf h51; try simp only [List.length_map] at k51
          rw [if_neg (byte_not 62 h51)]
          refine awp_seq ?_
          refine awp_region ?_
          refine sq_plain rfl rfl rfl (w_eql rfl (ev_tmp rfl) ev_ci) ?_
          refine sq_plain rfl rfl rfl (w_assign rfl (ev_tmp rfl)) ?_
          refine sq_nil ?_
          refine awp_cond (ev_tmp rfl) ?_ ?_
          · intro h61
            have k61 := eq_of_beqt h61; try simp only [List.length_map] at k61
            rw [if_pos (byte_is 63 h61)]
            refine awp_region ?_
            refine sq_plain rfl rfl rfl (w_move rfl (ev_tmp rfl)) ?_
            refine sq_plain rfl rfl rfl (w_move rfl (ev_tmp rfl)) ?_
            refine sq_plain rfl rfl rfl (w_nilB rfl (ev_tmp rfl)) ?_
            refine sq_plain rfl rfl rfl (w_fldBn 4 rfl Tryz.underlying37 rfl Tryz.sizeOf34 (ev_tmp rfl) rfl) ?_
            refine sq_plain rfl rfl rfl (w_loadB1 1 rfl (ev_tmp rfl) rfl Tryz.isAgg34 rfl) ?_
            refine sq_plain rfl rfl rfl (w_move rfl (ev_tmp rfl)) ?_
            refine sq_plain rfl rfl rfl (w_bslice rfl Tryz.underlying34 Tryz.sizeOf9 Tryz.zeroValue9 rfl rfl rfl rfl (bp_cons (ev_tmp rfl) (as_str _) bp_nil) rfl rfl) ?_
            refine sq_append (by' := 16) 2 rfl rfl rfl rfl Tryz.underlying34 Tryz.type9 rfl rfl rfl rfl rfl rfl (ev_tmp rfl) (ev_tmp rfl) rfl (by simp only [List.length_map, chunks_len]; omega) ?_
            intro v70_1
            refine sq_plain rfl rfl rfl (w_nilB rfl (ev_tmp rfl)) ?_
            refine sq_plain rfl rfl rfl (w_fldBn 4 rfl Tryz.underlying37 rfl Tryz.sizeOf34 (ev_tmp rfl) rfl) ?_
            refine sq_fact 2 rfl fun one_v70_1 => ?_
            refine sq_storeB1 1 rfl rfl rfl (ev_tmp rfl) (ev_tmp rfl) (as_is one_v70_1) rfl Tryz.sizeOf34 rfl ?_
            refine sq_nil ?_
            refine awp_seq ?_
            refine awp_region ?_
            refine sq_plain rfl rfl rfl (w_move rfl (ev_tmp rfl)) ?_
            refine sq_plain rfl rfl rfl (w_assign rfl (ev_tmp rfl)) ?_
            refine sq_nil ?_
            refine awp_ret ?_
            exact retG [1, 1, 1] (v70_1, x.2) (trivial) rfl (by first | rfl | (show _ = [_, Own.arr _ _ _ _, Own.arr _ _ _ _]; unfold TRec.ow addRead; dsimp only; rw [List.map_append]; rfl) | (show _ = [_, Own.arr _ _ _ _, Own.arr _ _ _ _]; unfold TRec.ow addWrite; dsimp only; rw [List.map_append]; rfl)) (resR rfl (rv_tmp' rfl (by first | rfl | exact congrArg AV.bool (by simp))))
          · intro h61
            have k61 := ne_of_beqf h61; try simp only [List.length_map] at k61
            rw [if_neg (byte_not 63 h61)]
            refine awp_seq ?_
            refine awp_region ?_
            refine sq_plain rfl rfl rfl (w_eql rfl (ev_tmp rfl) ev_ci) ?_
            refine sq_plain rfl rfl rfl (w_assign rfl (ev_tmp rfl)) ?_
            refine sq_nil ?_
            refine awp_cond (ev_tmp rfl) ?_ ?_
            · intro h73
              have k73 := eq_of_beqt h73; try simp only [List.length_map] at k73
              rw [if_pos (byte_is 33 h73)]
              have hcl := cutL_len s0 61
              refine awp_seq ?_
              refine awp_region ?_
              refine sq_plain rfl rfl rfl (w_move rfl (ev_tmp rfl)) ?_
              refine sq_plain rfl rfl rfl (w_callT 0 rfl rfl Tryz.call124 rfl (cut_spec s0 61 hsl) (evl_cons (ev_tmp rfl) (evl_cons (ev_cs' (l := [61]) rfl) evl_nil)) (by first | exact fun _ h => h | exact fun _ h => h.1)) ?_
              refine sq_plain rfl rfl rfl (w_move rfl (ev_tmp rfl)) ?_
              refine sq_plain rfl rfl rfl (w_extract rfl (ev_tmp rfl) rfl) ?_
              refine sq_plain rfl rfl rfl (w_extract rfl (ev_tmp rfl) rfl) ?_
              refine sq_plain rfl rfl rfl (w_extract rfl (ev_tmp rfl) rfl) ?_
              refine sq_plain rfl rfl rfl (w_assign rfl (ev_tmp rfl)) ?_
              refine sq_plain rfl rfl rfl (w_assign rfl (ev_tmp rfl)) ?_
              refine sq_plain rfl rfl rfl (w_assign rfl (ev_tmp rfl)) ?_
              refine sq_nil ?_
              refine awp_seq ?_
              refine awp_seq ?_
              refine awp_region ?_
              refine sq_plain rfl rfl rfl (w_move rfl (ev_tmp rfl)) ?_
              refine sq_plain rfl rfl rfl (w_not rfl (ev_tmp rfl)) ?_
              refine sq_nil ?_
              refine awp_cond (ev_tmp rfl) ?_ ?_
              · intro h82
                have hwi : wrI s0 = ⟨Lib.trimSuffix s0 [45], (Lib.cut s0 [61]).2.1, !(Lib.cut s0 [61]).2.2⟩ := (by rw [h82]; exact if_neg (by simpa using h82))
                rw [hwi]
                refine awp_region ?_
                refine sq_plain rfl rfl rfl (w_move rfl (ev_tmp rfl)) ?_
                refine sq_plain rfl rfl rfl (w_call rfl Tryz.call125 rfl (trimSuffix_spec s0 [45] hsl) (evl_cons (ev_tmp rfl) (evl_cons (ev_cs' (l := [45]) rfl) evl_nil))) ?_
                refine sq_plain rfl rfl rfl (w_assign rfl (ev_tmp rfl)) ?_
                refine sq_nil ?_
                refine awp_region ?_
                refine sq_plain rfl rfl rfl (w_move rfl (ev_tmp rfl)) ?_
                refine sq_plain rfl rfl rfl (w_move rfl (ev_tmp rfl)) ?_
                refine sq_plain rfl rfl rfl (w_nilB rfl (ev_tmp rfl)) ?_
                refine sq_plain rfl rfl rfl (w_fldBn 5 rfl Tryz.underlying37 rfl Tryz.sizeOf35 (ev_tmp rfl) rfl) ?_
                refine sq_plain rfl rfl rfl (w_loadB1 1 rfl (ev_tmp rfl) rfl Tryz.isAgg35 rfl) ?_
                refine sq_plain rfl rfl rfl (w_move rfl (ev_tmp rfl)) ?_
                refine sq_plain rfl rfl rfl (w_move rfl (ev_tmp rfl)) ?_
                refine sq_plain rfl rfl rfl (w_move rfl (ev_tmp rfl)) ?_
                refine sq_plain rfl rfl rfl (w_not rfl (ev_tmp rfl)) ?_
                refine sq_plain rfl rfl rfl (w_build (places := #[(0, 1), (1, 1), (2, 1)]) rfl Tryz.underlying79 Tryz.zeroValue79 (fun w => by kernel_rfl) rfl (bp_cons (ev_tmp rfl) (as_str _) (bp_cons (ev_tmp rfl) (as_str _) (bp_cons (ev_tmp rfl) (as_bool _) bp_nil))) rfl) ?_
                refine sq_plain rfl rfl rfl (w_bslice rfl Tryz.underlying35 Tryz.sizeOf79 Tryz.zeroValue79 rfl rfl rfl rfl (bp_cons (ev_tmp rfl) (as_agg _) bp_nil) rfl rfl) ?_
                refine sq_append (by' := 40) 3 rfl rfl rfl rfl Tryz.underlying35 Tryz.type79 rfl rfl rfl rfl rfl rfl (ev_tmp rfl) (ev_tmp rfl) rfl (by simp only [List.length_map, chunks_len]; omega) ?_
                intro v96_2
                refine sq_plain rfl rfl rfl (w_nilB rfl (ev_tmp rfl)) ?_
                refine sq_plain rfl rfl rfl (w_fldBn 5 rfl Tryz.underlying37 rfl Tryz.sizeOf35 (ev_tmp rfl) rfl) ?_
                refine sq_fact 3 rfl fun one_v96_2 => ?_
                refine sq_storeB1 1 rfl rfl rfl (ev_tmp rfl) (ev_tmp rfl) (as_is one_v96_2) rfl Tryz.sizeOf35 rfl ?_
                refine sq_nil ?_
                refine awp_seq ?_
                refine awp_region ?_
                refine sq_plain rfl rfl rfl (w_move rfl (ev_tmp rfl)) ?_
                refine sq_plain rfl rfl rfl (w_assign rfl (ev_tmp rfl)) ?_
                refine sq_nil ?_
                refine awp_ret ?_
                exact retG [1, 1, 1] (x.1, v96_2) (trivial) rfl (by first | rfl | (show _ = [_, Own.arr _ _ _ _, Own.arr _ _ _ _]; unfold TRec.ow addRead; dsimp only; rw [List.map_append]; rfl) | (show _ = [_, Own.arr _ _ _ _, Own.arr _ _ _ _]; unfold TRec.ow addWrite; dsimp only; rw [List.map_append]; rfl)) (resR rfl (rv_tmp' rfl (by first | rfl | exact congrArg AV.bool (by simp))))
              · intro h82
                have hwi : wrI s0 = ⟨(Lib.cut s0 [61]).1, (Lib.cut s0 [61]).2.1, !(Lib.cut s0 [61]).2.2⟩ := (by rw [h82]; exact if_pos (by simpa using h82))
                rw [hwi]
                refine awp_skip ?_
                refine awp_region ?_
                refine sq_plain rfl rfl rfl (w_move rfl (ev_tmp rfl)) ?_
                refine sq_plain rfl rfl rfl (w_move rfl (ev_tmp rfl)) ?_
                refine sq_plain rfl rfl rfl (w_nilB rfl (ev_tmp rfl)) ?_
                refine sq_plain rfl rfl rfl (w_fldBn 5 rfl Tryz.underlying37 rfl Tryz.sizeOf35 (ev_tmp rfl) rfl) ?_
                refine sq_plain rfl rfl rfl (w_loadB1 1 rfl (ev_tmp rfl) rfl Tryz.isAgg35 rfl) ?_
                refine sq_plain rfl rfl rfl (w_move rfl (ev_tmp rfl)) ?_
                refine sq_plain rfl rfl rfl (w_move rfl (ev_tmp rfl)) ?_
                refine sq_plain rfl rfl rfl (w_move rfl (ev_tmp rfl)) ?_
                refine sq_plain rfl rfl rfl (w_not rfl (ev_tmp rfl)) ?_
                refine sq_plain rfl rfl rfl (w_build (places := #[(0, 1), (1, 1), (2, 1)]) rfl Tryz.underlying79 Tryz.zeroValue79 (fun w => by kernel_rfl) rfl (bp_cons (ev_tmp rfl) (as_str _) (bp_cons (ev_tmp rfl) (as_str _) (bp_cons (ev_tmp rfl) (as_bool _) bp_nil))) rfl) ?_
                refine sq_plain rfl rfl rfl (w_bslice rfl Tryz.underlying35 Tryz.sizeOf79 Tryz.zeroValue79 rfl rfl rfl rfl (bp_cons (ev_tmp rfl) (as_agg _) bp_nil) rfl rfl) ?_
                refine sq_append (by' := 40) 3 rfl rfl rfl rfl Tryz.underlying35 Tryz.type79 rfl rfl rfl rfl rfl rfl (ev_tmp rfl) (ev_tmp rfl) rfl (by simp only [List.length_map, chunks_len]; omega) ?_
                intro v96_3
                refine sq_plain rfl rfl rfl (w_nilB rfl (ev_tmp rfl)) ?_
                refine sq_plain rfl rfl rfl (w_fldBn 5 rfl Tryz.underlying37 rfl Tryz.sizeOf35 (ev_tmp rfl) rfl) ?_
                refine sq_fact 3 rfl fun one_v96_3 => ?_
                refine sq_storeB1 1 rfl rfl rfl (ev_tmp rfl) (ev_tmp rfl) (as_is one_v96_3) rfl Tryz.sizeOf35 rfl ?_
                refine sq_nil ?_
                refine awp_seq ?_
                refine awp_region ?_
                refine sq_plain rfl rfl rfl (w_move rfl (ev_tmp rfl)) ?_
                refine sq_plain rfl rfl rfl (w_assign rfl (ev_tmp rfl)) ?_
                refine sq_nil ?_
                refine awp_ret ?_
                exact retG [1, 1, 1] (x.1, v96_3) (trivial) rfl (by first | rfl | (show _ = [_, Own.arr _ _ _ _, Own.arr _ _ _ _]; unfold TRec.ow addRead; dsimp only; rw [List.map_append]; rfl) | (show _ = [_, Own.arr _ _ _ _, Own.arr _ _ _ _]; unfold TRec.ow addWrite; dsimp only; rw [List.map_append]; rfl)) (resR rfl (rv_tmp' rfl (by first | rfl | exact congrArg AV.bool (by simp))))
            · intro h73
              have k73 := ne_of_beqf h73; try simp only [List.length_map] at k73
              rw [if_neg (byte_not 33 h73)]
              refine awp_region ?_
              refine sq_plain rfl rfl rfl (w_move rfl (ev_tmp rfl)) ?_
              refine sq_plain rfl rfl rfl (w_move rfl (ev_tmp rfl)) ?_
              refine sq_plain rfl rfl rfl (w_callT 0 rfl rfl Tryz.call46 rfl (readInt_spec (y0 :: s0) 1 60 hs) (evl_cons (ev_tmp rfl) (evl_cons ev_ci (evl_cons ev_ci evl_nil))) (by first | exact fun _ h => h | exact fun _ h => h.1)) ?_
              refine sq_plain rfl rfl rfl (w_move rfl (ev_tmp rfl)) ?_
              refine sq_plain rfl rfl rfl (w_extract rfl (ev_tmp rfl) rfl) ?_
              refine sq_plain rfl rfl rfl (w_extract rfl (ev_tmp rfl) rfl) ?_
              refine sq_plain rfl rfl rfl (w_nilB rfl (ev_tmp rfl)) ?_
              refine sq_plain rfl rfl rfl (w_fldBn 1 rfl Tryz.underlying37 rfl Tryz.sizeOf3 (ev_tmp rfl) rfl) ?_
              refine sq_storeB1 1 rfl rfl rfl (ev_tmp rfl) (ev_tmp rfl) (as_ik _ _) rfl Tryz.sizeOf3 rfl ?_
              refine sq_plain rfl rfl rfl (w_assign rfl (ev_tmp rfl)) ?_
              refine sq_nil ?_
              refine awp_seq ?_
              refine awp_region ?_
              refine sq_plain rfl rfl rfl (w_move rfl (ev_tmp rfl)) ?_
              refine sq_plain rfl rfl rfl (w_assign rfl (ev_tmp rfl)) ?_
              refine sq_nil ?_
              refine awp_ret ?_
              exact retG [1, 1, 1] (x.1, x.2) (trivial) rfl (by first | rfl | (show _ = [_, Own.arr _ _ _ _, Own.arr _ _ _ _]; unfold TRec.ow addRead; dsimp only; rw [List.map_append]; rfl) | (show _ = [_, Own.arr _ _ _ _, Own.arr _ _ _ _]; unfold TRec.ow addWrite; dsimp only; rw [List.map_append]; rfl)) (resR rfl (rv_tmp' rfl (by first | rfl | exact congrArg AV.bool (by simp))))
end Go.Proofs.YtmlmmgeadombbaaGreatDoor

set_option linter.unusedVariables false
set_option linter.unusedSimpArgs false
set_option maxRecDepth 100000
set_option maxHeartbeats 2000000
namespace Go.Proofs.YtmlmmgeadombbaaGreatDoor
open Go Go.AV Go.M
attribute [local irreducible] OpW OpA OpS AWP FSpec ESpec GSpec OpE RetOk RetOkG RvDen Le Ev GuardIs SrcIs Int.tmod Int.tdiv IntKind.wrap
theorem readRecText_own (s : Str) (hs : s.length ≤ 1048576) : GSpec Tryz.prog 24 [AV.wt readW (AV.str s)] [] (fun _ : Value × Value => True) (fun x => TRec.ow (readTxtR s).1 x) (fun x => AV.tup [AV.agg (TRec.ocs (readTxtR s).1 x), AV.bool (readTxtR s).2]) := by
  obtain ⟨r0, h0⟩ : ∃ r0, (readTxtR s).1 = r0 := ⟨_, rfl⟩
  have hno : ¬ TxtOf s r0 → readTxtR s = (emptyR, false) := fun h => readTxtR_no (by rw [h0]; exact h)
  obtain ⟨y0, ws, hw⟩ : ∃ y0 ws, splitC 32 s = y0 :: ws := by
    cases h : splitC 32 s with
    | nil => exact absurd h (splitC_ne 32 s)
    | cons a b => exact ⟨a, b, rfl⟩
  have hwl := splitC_cntW 32 s
  rw [hw, List.length_cons] at hwl
  have hG : TxtOf s r0 → foldI (startR (idxF rcWs y0 0)) ws = (r0, true) := txt_foldI hw
  refine gspec_of_awp Tryz.func24 rfl Tryz.ntmps24 rfl ?_
  refine AWP.le (le_tab (t := 0) rfl) ?_
  refine awp_seq ?_
  refine awp_region ?_
  refine sq_alloc rfl rfl rfl rfl Tryz.zeroValue37 rfl ?_
  intro b2
  refine sq_plain rfl rfl rfl (w_assign rfl ev_cb) ?_
  refine sq_nil ?_
  refine awp_seq ?_
  refine awp_seq ?_
  refine awp_region ?_
  refine sq_plain rfl rfl rfl (w_move rfl (ev_tmp rfl)) ?_
  refine sq_plain rfl rfl rfl (w_slen rfl Tryz.underlying9 (ev_tmp rfl)) ?_
  refine sq_plain rfl rfl rfl (w_gtr rfl (ev_tmp rfl) ev_ci) ?_
  refine sq_nil ?_
  refine awp_cond (ev_tmp rfl) ?_ ?_
  · intro h10
    have k10 := of_decide_eq_true h10; try simp only [List.length_map] at k10
    have he := hno (fun h => by have := h.2.2; omega)
    rw [he]
    refine awp_seq ?_
    refine awp_region ?_
    refine sq_plain rfl rfl rfl (w_build (places := #[(0, 1), (1, 1), (2, 1), (3, 1), (4, 1), (5, 1), (6, 1)]) rfl Tryz.underlying37 Tryz.zeroValue37 (fun w => by kernel_rfl) rfl bp_nil rfl) ?_
    refine sq_storeB0 0 rfl rfl rfl (ev_tmp rfl) (ev_tmp rfl) (as_agg _) rfl Tryz.sizeOf37 rfl ?_
    refine sq_plain rfl rfl rfl (w_assign rfl ev_cb) ?_
    refine sq_nil ?_
    refine awp_ret ?_
    refine retG_nil 9 1 ?_
    refine retG_nil 79 3 ?_
    exact retG [1, 0] ((Value.slice none 0 0), (Value.slice none 0 0)) (trivial) rfl (by rfl) (resN rfl (by decide) (rv_cons (rv_cell (ys := _) 2 rfl rfl Tryz.isAgg37 Tryz.sizeOf37 rfl) (rv_cons (rv_tmp' rfl (by rfl)) rv_nil)))
  · intro h10
    have k10 := of_decide_eq_false h10; try simp only [List.length_map] at k10
    have hs4 : s.length ≤ 400 := by omega
    refine awp_skip ?_
    refine awp_seq ?_
    refine awp_region ?_
    refine sq_plain rfl rfl rfl (w_move rfl (ev_tmp rfl)) ?_
    refine sq_plain rfl rfl rfl (w_callT 1 rfl rfl Tryz.call41 rfl (split_spec s 32 hs) (evl_cons (ev_tmp rfl) (evl_cons (ev_cs' (l := [32]) rfl) evl_nil)) (by first | exact fun _ h => h | exact fun _ h => h.1)) ?_
    refine sq_plain rfl rfl rfl (w_assign rfl (ev_tmp rfl)) ?_
    refine sq_nil ?_
    refine awp_seq ?_
    rw [hw]
    refine awp_region_tree _ 7 (.pure 0 (.pure 1 (.pure 2 (.pure 3 (.pure 4 (.pure 5 (.e1 6 .nil))))))) (by kernel_rfl) (by kernel_rfl) rfl invx_self ?_
    refine bt_plain rfl rfl rfl (fun ext => w_call rfl Tryz.call70 rfl (recWords_spec) evl_nil) ?_
    refine bt_plain rfl rfl rfl (fun ext => w_move rfl (ev_tmp rfl)) ?_
    refine bt_plain rfl rfl rfl (fun ext => w_idxm rfl Tryz.underlying34 Tryz.sizeOf9 (ev_tmp rfl) ev_ci (show (y0 :: ws)[0]? = some y0 from rfl) (by first | omega | ((try simp only [List.length_map, List.length_take, List.length_cons, List.length_nil, chunks_len, szR] at *); omega) | (have hc2 := hc; simp only [Bool.and_eq_true, Bool.or_eq_true, Bool.or_eq_false_iff, Bool.and_eq_false_iff, Bool.not_eq_true', Bool.not_eq_false', decide_eq_true_eq, decide_eq_false_iff_not, beq_iff_eq, bne_iff_ne, List.length_map, List.length_take] at hc2; omega))) ?_
    refine bt_plain rfl rfl rfl (fun ext => w_loadE1 rfl (ev_tmp rfl) Tryz.isAgg9 rfl) ?_
    refine bt_plain rfl rfl rfl (fun ext => w_call rfl Tryz.call42 rfl (indexS_spec rcWs y0) (evl_cons (ev_tmp rfl) (evl_cons (ev_tmp rfl) evl_nil))) ?_
    refine bt_plain rfl rfl rfl (fun ext => w_build (places := #[(0, 1), (1, 1), (2, 1), (3, 1), (4, 1), (5, 1), (6, 1)]) rfl Tryz.underlying37 Tryz.zeroValue37 (fun w => by kernel_rfl) rfl (bp_cons (ev_tmp rfl) (as_ik _ _) bp_nil) rfl) ?_
    refine bt_e1 ?_
    refine eff_s rfl rfl rfl (opE_alloc rfl Tryz.zeroValue37 rfl) (fun a _ => (by first | exact invx_mk rfl | exact invx_mk (List.append_assoc _ _ _) | exact invx_all)) ?_
    intro b5 _
    refine bt_nil ?_
    refine sq_storeB0 2 rfl rfl rfl (ev_tmp rfl) (ev_tmp rfl) (as_agg _) rfl Tryz.sizeOf37 rfl ?_
    refine sq_nil ?_
    refine awp_seq ?_
    refine awp_seq ?_
    refine awp_region ?_
    refine sq_plain rfl rfl rfl (w_move rfl (ev_tmp rfl)) ?_
    refine sq_plain rfl rfl rfl (w_lsl_lom rfl Tryz.underlying34 Tryz.sizeOf9 (ev_tmp rfl) ev_ci (by first | omega | ((try simp only [List.length_map, List.length_take, List.length_cons, List.length_nil, chunks_len, szR] at *); omega) | (have hc2 := hc; simp only [Bool.and_eq_true, Bool.or_eq_true, Bool.or_eq_false_iff, Bool.and_eq_false_iff, Bool.not_eq_true', Bool.not_eq_false', decide_eq_true_eq, decide_eq_false_iff_not, beq_iff_eq, bne_iff_ne, List.length_map, List.length_take] at hc2; omega)) (by first | omega | ((try simp only [List.length_map, List.length_take, List.length_cons, List.length_nil, chunks_len, szR] at *); omega) | (have hc2 := hc; simp only [Bool.and_eq_true, Bool.or_eq_true, Bool.or_eq_false_iff, Bool.and_eq_false_iff, Bool.not_eq_true', Bool.not_eq_false', decide_eq_true_eq, decide_eq_false_iff_not, beq_iff_eq, bne_iff_ne, List.length_map, List.length_take] at hc2; omega))) ?_
    rw [show List.drop (Int.toNat 1) (y0 :: ws) = ws from rfl]
    refine sq_plain rfl rfl rfl (w_llen rfl Tryz.underlying34 (ev_tmp rfl)) ?_
    refine sq_plain rfl rfl rfl (w_move rfl ev_ci) ?_
    refine sq_nil ?_
    refine awp_block ?_
    refine awp_nilown 9 1 ?_
    refine awp_nilown 79 3 ?_
    refine AWP.le (le_pick [4, 1, 0] rfl) ?_
    refine awp_loop_i4 [(0, _), (2, _), (5, _), (21, _), (22, _)] _ (fun (i : Nat) (c : TRec) (v : Value) (u : Value) => (i ≤ ws.length ∧ SzR c i) ∧ foldI (startR (idxF rcWs y0 0)) ws = foldI c (ws.drop i)) (fun (i : Nat) (c : TRec) (v : Value) (u : Value) => [.box b5 37 (TRec.ocs c (v, u)), .arr v 9 1 (c.Reads.map fun t => [AV.str t]), .arr u 79 3 (c.Writes.map TWrite.cs)]) (fun (i : Nat) (c : TRec) (v : Value) (u : Value) => [(23, AV.int i)]) (fun (i : Nat) (c : TRec) (v : Value) (u : Value) => ws.length - i) (0) (startR (idxF rcWs y0 0)) ((Value.slice none 0 0)) ((Value.slice none 0 0)) ?_ (le_eq (by rfl) ⟨rfl, rfl, rfl, rfl, rfl, rfl, trivial⟩) ?_
    · exact ⟨⟨Nat.zero_le _, szR_zero _⟩, rfl⟩
    intro i c v u hinv
    refine awp_seq ?_
    refine awp_region ?_
    refine sq_plain rfl rfl rfl (w_lss rfl (ev_tmp rfl) (ev_tmp rfl)) ?_
    refine sq_nil ?_
    refine awp_seq ?_
    refine awp_cond (ev_tmp rfl) ?_ ?_
    · intro h24
      have k24 := of_decide_eq_true h24; try simp only [List.length_map] at k24
      have hlt : i < ws.length := by omega
      obtain ⟨x, hx⟩ := get_some hlt
      have hx4 : x.length ≤ 400 := Nat.le_trans (splitC_len (c := 32) (by rw [hw]; exact List.mem_cons_of_mem _ (List.mem_of_getElem? hx))) hs4
      have hsr := hinv.1.2.reads
      have hsw := hinv.1.2.writes
      refine awp_skip ?_
      refine awp_seq ?_
      refine awp_block ?_
      refine awp_seq ?_
      refine awp_region ?_
      refine sq_plain rfl rfl rfl (w_idxm rfl Tryz.underlying34 Tryz.sizeOf9 (ev_tmp rfl) (ev_tmp rfl) hx (by first | omega | ((try simp only [List.length_map, List.length_take, List.length_cons, List.length_nil, chunks_len, szR] at *); omega) | (have hc2 := hc; simp only [Bool.and_eq_true, Bool.or_eq_true, Bool.or_eq_false_iff, Bool.and_eq_false_iff, Bool.not_eq_true', Bool.not_eq_false', decide_eq_true_eq, decide_eq_false_iff_not, beq_iff_eq, bne_iff_ne, List.length_map, List.length_take] at hc2; omega))) ?_
      refine sq_plain rfl rfl rfl (w_loadE1 rfl (ev_tmp rfl) Tryz.isAgg9 rfl) ?_
      refine sq_plain rfl rfl rfl (w_assign rfl (ev_tmp rfl)) ?_
      refine sq_nil ?_
      refine awp_seq ?_
      refine awp_region ?_
      refine sq_plain rfl rfl rfl (w_move rfl (ev_tmp rfl)) ?_
      refine sq_callGB [0, 0, 0] rfl rfl rfl rfl Tryz.call71 rfl (readWord_own _ c (v, u) x (by omega) (by omega) (by omega)) rfl (evlb_cons (evb (ev_tmp rfl)) (evlb_cons (evb_wt 1 rfl (fun _ h => h) (evb (ev_tmp rfl))) evlb_nil)) (by first | exact flatO_nil | (intro _; exact flatO_nil) | (intro _; first | exact flat_is _ | exact flat_ik _ _ | exact flat_bool _ | exact flat_str _ | exact flat_nils) | (intro _; refine flat_tup ?_; (repeat (first | exact flatl_nil | (refine flatl_cons (by first | (first | exact flat_is _ | exact flat_ik _ _ | exact flat_bool _ | exact flat_str _ | exact flat_nils) | (refine flat_agg ?_; (repeat (first | exact flatl_nil | (refine flatl_cons (by first | exact flat_is _ | exact flat_ik _ _ | exact flat_bool _ | exact flat_str _ | exact flat_nils) ?_))))) ?_))); done) | (intro _; refine flat_agg ?_; (repeat (first | exact flatl_nil | (refine flatl_cons (by first | exact flat_is _ | exact flat_ik _ _ | exact flat_bool _ | exact flat_str _ | exact flat_nils) ?_))); done) | ((repeat (first | exact flatO_nil | (refine flatO_cons (flatO_box ?_) ?_; (repeat (first | exact flatl_nil | (refine flatl_cons (by first | exact flat_is _ | exact flat_ik _ _ | exact flat_bool _ | exact flat_str _ | exact flat_nils) ?_)))) | (refine flatO_cons (flatO_arr ?_) ?_; (repeat (first | exact flate_nil | (refine flate_map (fun _ => ?_); (first | exact TWrite.flat _ | exact TFeedItem.flat _ | exact TIdx.flat _ | exact TVer.flat _ | (repeat (first | exact flatl_nil | (refine flatl_cons (by first | exact flat_is _ | exact flat_ik _ _ | exact flat_bool _ | exact flat_str _ | exact flat_nils) ?_))))) | (refine flate_rep ?_; (first | exact TWrite.flat _ | exact TFeedItem.flat _ | exact TIdx.flat _ | exact TVer.flat _ | (repeat (first | exact flatl_nil | (refine flatl_cons (by first | exact flat_is _ | exact flat_ik _ _ | exact flat_bool _ | exact flat_str _ | exact flat_nils) ?_))))) | (refine flate_cons ?_ ?_; (first | exact TWrite.flat _ | exact TFeedItem.flat _ | exact TIdx.flat _ | exact TVer.flat _ | (repeat (first | exact flatl_nil | (refine flatl_cons (by first | exact flat_is _ | exact flat_ik _ _ | exact flat_bool _ | exact flat_str _ | exact flat_nils) ?_))))) | refine flate_app ?_ ?_))))); done) | (intro _; (repeat (first | exact flatO_nil | (refine flatO_cons (flatO_box ?_) ?_; (repeat (first | exact flatl_nil | (refine flatl_cons (by first | exact flat_is _ | exact flat_ik _ _ | exact flat_bool _ | exact flat_str _ | exact flat_nils) ?_)))) | (refine flatO_cons (flatO_arr ?_) ?_; (repeat (first | exact flate_nil | (refine flate_map (fun _ => ?_); (first | exact TWrite.flat _ | exact TFeedItem.flat _ | exact TIdx.flat _ | exact TVer.flat _ | (repeat (first | exact flatl_nil | (refine flatl_cons (by first | exact flat_is _ | exact flat_ik _ _ | exact flat_bool _ | exact flat_str _ | exact flat_nils) ?_))))) | (refine flate_rep ?_; (first | exact TWrite.flat _ | exact TFeedItem.flat _ | exact TIdx.flat _ | exact TVer.flat _ | (repeat (first | exact flatl_nil | (refine flatl_cons (by first | exact flat_is _ | exact flat_ik _ _ | exact flat_bool _ | exact flat_str _ | exact flat_nils) ?_))))) | (refine flate_cons ?_ ?_; (first | exact TWrite.flat _ | exact TFeedItem.flat _ | exact TIdx.flat _ | exact TVer.flat _ | (repeat (first | exact flatl_nil | (refine flatl_cons (by first | exact flat_is _ | exact flat_ik _ _ | exact flat_bool _ | exact flat_str _ | exact flat_nils) ?_))))) | refine flate_app ?_ ?_))))); done)) (by first | exact flatO_nil | (intro _; exact flatO_nil) | (intro _; first | exact flat_is _ | exact flat_ik _ _ | exact flat_bool _ | exact flat_str _ | exact flat_nils) | (intro _; refine flat_tup ?_; (repeat (first | exact flatl_nil | (refine flatl_cons (by first | (first | exact flat_is _ | exact flat_ik _ _ | exact flat_bool _ | exact flat_str _ | exact flat_nils) | (refine flat_agg ?_; (repeat (first | exact flatl_nil | (refine flatl_cons (by first | exact flat_is _ | exact flat_ik _ _ | exact flat_bool _ | exact flat_str _ | exact flat_nils) ?_))))) ?_))); done) | (intro _; refine flat_agg ?_; (repeat (first | exact flatl_nil | (refine flatl_cons (by first | exact flat_is _ | exact flat_ik _ _ | exact flat_bool _ | exact flat_str _ | exact flat_nils) ?_))); done) | ((repeat (first | exact flatO_nil | (refine flatO_cons (flatO_box ?_) ?_; (repeat (first | exact flatl_nil | (refine flatl_cons (by first | exact flat_is _ | exact flat_ik _ _ | exact flat_bool _ | exact flat_str _ | exact flat_nils) ?_)))) | (refine flatO_cons (flatO_arr ?_) ?_; (repeat (first | exact flate_nil | (refine flate_map (fun _ => ?_); (first | exact TWrite.flat _ | exact TFeedItem.flat _ | exact TIdx.flat _ | exact TVer.flat _ | (repeat (first | exact flatl_nil | (refine flatl_cons (by first | exact flat_is _ | exact flat_ik _ _ | exact flat_bool _ | exact flat_str _ | exact flat_nils) ?_))))) | (refine flate_rep ?_; (first | exact TWrite.flat _ | exact TFeedItem.flat _ | exact TIdx.flat _ | exact TVer.flat _ | (repeat (first | exact flatl_nil | (refine flatl_cons (by first | exact flat_is _ | exact flat_ik _ _ | exact flat_bool _ | exact flat_str _ | exact flat_nils) ?_))))) | (refine flate_cons ?_ ?_; (first | exact TWrite.flat _ | exact TFeedItem.flat _ | exact TIdx.flat _ | exact TVer.flat _ | (repeat (first | exact flatl_nil | (refine flatl_cons (by first | exact flat_is _ | exact flat_ik _ _ | exact flat_bool _ | exact flat_str _ | exact flat_nils) ?_))))) | refine flate_app ?_ ?_))))); done) | (intro _; (repeat (first | exact flatO_nil | (refine flatO_cons (flatO_box ?_) ?_; (repeat (first | exact flatl_nil | (refine flatl_cons (by first | exact flat_is _ | exact flat_ik _ _ | exact flat_bool _ | exact flat_str _ | exact flat_nils) ?_)))) | (refine flatO_cons (flatO_arr ?_) ?_; (repeat (first | exact flate_nil | (refine flate_map (fun _ => ?_); (first | exact TWrite.flat _ | exact TFeedItem.flat _ | exact TIdx.flat _ | exact TVer.flat _ | (repeat (first | exact flatl_nil | (refine flatl_cons (by first | exact flat_is _ | exact flat_ik _ _ | exact flat_bool _ | exact flat_str _ | exact flat_nils) ?_))))) | (refine flate_rep ?_; (first | exact TWrite.flat _ | exact TFeedItem.flat _ | exact TIdx.flat _ | exact TVer.flat _ | (repeat (first | exact flatl_nil | (refine flatl_cons (by first | exact flat_is _ | exact flat_ik _ _ | exact flat_bool _ | exact flat_str _ | exact flat_nils) ?_))))) | (refine flate_cons ?_ ?_; (first | exact TWrite.flat _ | exact TFeedItem.flat _ | exact TIdx.flat _ | exact TVer.flat _ | (repeat (first | exact flatl_nil | (refine flatl_cons (by first | exact flat_is _ | exact flat_ik _ _ | exact flat_bool _ | exact flat_str _ | exact flat_nils) ?_))))) | refine flate_app ?_ ?_))))); done)) (by first | exact flatO_nil | (intro _; exact flatO_nil) | (intro _; first | exact flat_is _ | exact flat_ik _ _ | exact flat_bool _ | exact flat_str _ | exact flat_nils) | (intro _; refine flat_tup ?_; (repeat (first | exact flatl_nil | (refine flatl_cons (by first | (first | exact flat_is _ | exact flat_ik _ _ | exact flat_bool _ | exact flat_str _ | exact flat_nils) | (refine flat_agg ?_; (repeat (first | exact flatl_nil | (refine flatl_cons (by first | exact flat_is _ | exact flat_ik _ _ | exact flat_bool _ | exact flat_str _ | exact flat_nils) ?_))))) ?_))); done) | (intro _; refine flat_agg ?_; (repeat (first | exact flatl_nil | (refine flatl_cons (by first | exact flat_is _ | exact flat_ik _ _ | exact flat_bool _ | exact flat_str _ | exact flat_nils) ?_))); done) | ((repeat (first | exact flatO_nil | (refine flatO_cons (flatO_box ?_) ?_; (repeat (first | exact flatl_nil | (refine flatl_cons (by first | exact flat_is _ | exact flat_ik _ _ | exact flat_bool _ | exact flat_str _ | exact flat_nils) ?_)))) | (refine flatO_cons (flatO_arr ?_) ?_; (repeat (first | exact flate_nil | (refine flate_map (fun _ => ?_); (first | exact TWrite.flat _ | exact TFeedItem.flat _ | exact TIdx.flat _ | exact TVer.flat _ | (repeat (first | exact flatl_nil | (refine flatl_cons (by first | exact flat_is _ | exact flat_ik _ _ | exact flat_bool _ | exact flat_str _ | exact flat_nils) ?_))))) | (refine flate_rep ?_; (first | exact TWrite.flat _ | exact TFeedItem.flat _ | exact TIdx.flat _ | exact TVer.flat _ | (repeat (first | exact flatl_nil | (refine flatl_cons (by first | exact flat_is _ | exact flat_ik _ _ | exact flat_bool _ | exact flat_str _ | exact flat_nils) ?_))))) | (refine flate_cons ?_ ?_; (first | exact TWrite.flat _ | exact TFeedItem.flat _ | exact TIdx.flat _ | exact TVer.flat _ | (repeat (first | exact flatl_nil | (refine flatl_cons (by first | exact flat_is _ | exact flat_ik _ _ | exact flat_bool _ | exact flat_str _ | exact flat_nils) ?_))))) | refine flate_app ?_ ?_))))); done) | (intro _; (repeat (first | exact flatO_nil | (refine flatO_cons (flatO_box ?_) ?_; (repeat (first | exact flatl_nil | (refine flatl_cons (by first | exact flat_is _ | exact flat_ik _ _ | exact flat_bool _ | exact flat_str _ | exact flat_nils) ?_)))) | (refine flatO_cons (flatO_arr ?_) ?_; (repeat (first | exact flate_nil | (refine flate_map (fun _ => ?_); (first | exact TWrite.flat _ | exact TFeedItem.flat _ | exact TIdx.flat _ | exact TVer.flat _ | (repeat (first | exact flatl_nil | (refine flatl_cons (by first | exact flat_is _ | exact flat_ik _ _ | exact flat_bool _ | exact flat_str _ | exact flat_nils) ?_))))) | (refine flate_rep ?_; (first | exact TWrite.flat _ | exact TFeedItem.flat _ | exact TIdx.flat _ | exact TVer.flat _ | (repeat (first | exact flatl_nil | (refine flatl_cons (by first | exact flat_is _ | exact flat_ik _ _ | exact flat_bool _ | exact flat_str _ | exact flat_nils) ?_))))) | (refine flate_cons ?_ ?_; (first | exact TWrite.flat _ | exact TFeedItem.flat _ | exact TIdx.flat _ | exact TVer.flat _ | (repeat (first | exact flatl_nil | (refine flatl_cons (by first | exact flat_is _ | exact flat_ik _ _ | exact flat_bool _ | exact flat_str _ | exact flat_nils) ?_))))) | refine flate_app ?_ ?_))))); done)) ?_
      intro x28 ok28
      refine sq_plain rfl rfl rfl (w_not rfl (ev_tmp rfl)) ?_
      refine sq_nil ?_
      refine awp_cond (ev_tmp rfl) ?_ ?_
      · intro h29
        have he := hno (fun h => by have h9 := hG h; rw [foldI_stop hx hinv.2 (by simpa using h29)] at h9; injection h9 with _ h9; cases h9)
        rw [he]
        refine awp_seq ?_
        refine awp_region ?_
        refine sq_plain rfl rfl rfl (w_build (places := #[(0, 1), (1, 1), (2, 1), (3, 1), (4, 1), (5, 1), (6, 1)]) rfl Tryz.underlying37 Tryz.zeroValue37 (fun w => by kernel_rfl) rfl bp_nil rfl) ?_
        refine sq_storeB0 3 rfl rfl rfl (ev_tmp rfl) (ev_tmp rfl) (as_agg _) rfl Tryz.sizeOf37 rfl ?_
        refine sq_plain rfl rfl rfl (w_assign rfl ev_cb) ?_
        refine sq_nil ?_
        refine awp_ret ?_
        refine retG_nil 9 1 ?_
        refine retG_nil 79 3 ?_
        exact retG [1, 0] ((Value.slice none 0 0), (Value.slice none 0 0)) (trivial) rfl (by rfl) (resN rfl (by decide) (rv_cons (rv_cell (ys := _) 5 rfl rfl Tryz.isAgg37 Tryz.sizeOf37 rfl) (rv_cons (rv_tmp' rfl (by rfl)) rv_nil)))
      · intro h29
        refine awp_skip ?_
        refine awp_region ?_
        refine sq_plain rfl rfl rfl (w_addi rfl (ev_tmp rfl) ev_ci (by first | omega | ((try simp only [List.length_map, List.length_take, List.length_cons, List.length_nil, chunks_len, szR] at *); omega) | (have hc2 := hc; simp only [Bool.and_eq_true, Bool.or_eq_true, Bool.or_eq_false_iff, Bool.and_eq_false_iff, Bool.not_eq_true', Bool.not_eq_false', decide_eq_true_eq, decide_eq_false_iff_not, beq_iff_eq, bne_iff_ne, List.length_map, List.length_take] at hc2; omega))) ?_
        refine sq_plain rfl rfl rfl (w_move rfl (ev_tmp rfl)) ?_
        refine sq_nil ?_
        refine round_end4 i c v u (i + 1) ((wordI c x).1) (x28.1) (x28.2) ?_ ?_ (Le.trans (le_pick [0, 0, 0] rfl) (le_eq (by rfl) ⟨rfl, rfl, rfl, rfl, rfl, rfl, trivial⟩))
        · exact ⟨⟨by omega, wordI_sz hinv.1.2 hx4⟩, foldI_next hx hinv.2 (by simpa using h29)⟩
        · omega
    · intro h24
      have k24 := of_decide_eq_false h24; try simp only [List.length_map] at k24
      have hfe := foldI_end (show ws.length ≤ i by omega) hinv.2
      have hcr : TxtOf s r0 → c = r0 := fun h => by (have h9 := hG h; rw [hfe] at h9; injection h9)
      have hsz := szR_big hinv.1.2 (by omega)
      refine awp_exit ?_
      refine awp_seq ?_
      refine awp_seq ?_
      refine awp_region ?_
      refine sq_plain rfl rfl rfl (w_loadA 0 rfl (ev_tmp rfl) rfl Tryz.isAgg37 Tryz.sizeOf37 rfl) ?_
      refine sq_plain rfl rfl rfl (w_callB rfl Tryz.call21 rfl (goodRec_spec c hsz) (flat_bool _) (evlb_cons (evb_lt (ev_tmp rfl) (lt_agg (lc_cons lt_refl (lc_cons lt_refl (lc_cons lt_refl (lc_cons lt_refl (lc_cons (lt_arr (List.mem_of_getElem? (i := 1) rfl) le_refl_e) (lc_cons (lt_arr (List.mem_of_getElem? (i := 2) rfl) le_refl_e) (lc_cons lt_refl lc_nil))))))))) evlb_nil)) ?_
      refine sq_plain rfl rfl rfl (w_not rfl (ev_tmp rfl)) ?_
      refine sq_plain rfl rfl rfl (w_move rfl (ev_tmp rfl)) ?_
      refine sq_grd rfl rfl (guard_f rfl rfl rfl) (fun hc => w_loadA 0 rfl (ev_tmp rfl) rfl Tryz.isAgg37 Tryz.sizeOf37 rfl) ?_
      refine sq_grd rfl rfl (guard_f rfl rfl rfl) (fun hc => w_callB rfl Tryz.call58 rfl (recText_spec c (by simpa using hc)) (flat_str _) (evlb_cons (evb_wt 4 rfl (by first | exact fun _ h => h | exact fun _ h => h.1) (evb_lt (ev_whn rfl hc) (lt_agg (lc_cons lt_refl (lc_cons lt_refl (lc_cons lt_refl (lc_cons lt_refl (lc_cons (lt_arr (List.mem_of_getElem? (i := 1) rfl) le_refl_e) (lc_cons (lt_arr (List.mem_of_getElem? (i := 2) rfl) le_refl_e) (lc_cons lt_refl lc_nil)))))))))) evlb_nil)) ?_
      refine sq_grd rfl rfl (guard_f rfl rfl rfl) (fun hc => w_move rfl (ev_tmp rfl)) ?_
      refine sq_grd rfl rfl (guard_f rfl rfl rfl) (fun hc => w_sneq rfl (ev_whn rfl hc) (ev_whn rfl hc)) ?_
      refine sq_plain rfl rfl rfl (w_or rfl (ev_tmp rfl) (evif_w rfl)) ?_
      refine sq_nil ?_
      refine awp_cond (ev_tmp rfl) ?_ ?_
      · intro h40
        have he := readTxt_end h0 hcr h40
        rw [he]
        refine awp_seq ?_
        refine awp_region ?_
        refine sq_plain rfl rfl rfl (w_build (places := #[(0, 1), (1, 1), (2, 1), (3, 1), (4, 1), (5, 1), (6, 1)]) rfl Tryz.underlying37 Tryz.zeroValue37 (fun w => by kernel_rfl) rfl bp_nil rfl) ?_
        refine sq_storeB0 3 rfl rfl rfl (ev_tmp rfl) (ev_tmp rfl) (as_agg _) rfl Tryz.sizeOf37 rfl ?_
        refine sq_plain rfl rfl rfl (w_assign rfl ev_cb) ?_
        refine sq_nil ?_
        refine awp_ret ?_
        refine retG_nil 9 1 ?_
        refine retG_nil 79 3 ?_
        exact retG [1, 0] ((Value.slice none 0 0), (Value.slice none 0 0)) (trivial) rfl (by rfl) (resN rfl (by decide) (rv_cons (rv_cell (ys := _) 5 rfl rfl Tryz.isAgg37 Tryz.sizeOf37 rfl) (rv_cons (rv_tmp' rfl (by rfl)) rv_nil)))
      · intro h40
        simp only [Bool.or_eq_false_iff, Bool.not_eq_false', bne_eq_false_iff_eq] at h40
        have he := readTxtR_of h40.1 (by rw [h40.2]; omega)
        rw [h40.2] at he
        rw [he]
        refine awp_skip ?_
        refine awp_seq ?_
        refine awp_region ?_
        refine sq_plain rfl rfl rfl (w_loadA 0 rfl (ev_tmp rfl) rfl Tryz.isAgg37 Tryz.sizeOf37 rfl) ?_
        refine sq_storeB0 3 rfl rfl rfl (ev_tmp rfl) (ev_tmp rfl) (as_agg _) rfl Tryz.sizeOf37 rfl ?_
        refine sq_plain rfl rfl rfl (w_assign rfl ev_cb) ?_
        refine sq_nil ?_
        refine awp_ret ?_
        exact retG [1, 1] (v, u) (trivial) rfl (by rfl) (resN rfl (by decide) (rv_cons (rv_cell (ys := _) 3 rfl rfl Tryz.isAgg37 Tryz.sizeOf37 rfl) (rv_cons (rv_tmp' rfl (by rfl)) rv_nil)))
end Go.Proofs.YtmlmmgeadombbaaGreatDoor
