/- Texts of the claim, part 4. -/
import Derived.Test.YtmlmmgeadombbaaGreatDoorRows
import Derived.Test.YtmlmmgeadombbaaGreatDoorZOpsTexts3

set_option linter.unusedVariables false
set_option linter.unusedSimpArgs false
set_option maxRecDepth 100000
set_option maxHeartbeats 1000000
namespace Go.Proofs.YtmlmmgeadombbaaGreatDoor
open Go Go.AV Go.M
attribute [local irreducible] OpW OpA OpS AWP FSpec ESpec GSpec OpE RetOk RetOkG RvDen Le Ev GuardIs SrcIs Int.tmod Int.tdiv IntKind.wrap
theorem word_get {k : Int} (h : 1 ≤ k ∧ k ≤ 7) : (opWs.map fun s => [AV.str s])[k.toNat]? = some [AV.str (wordOf k)] :=
  wordOf_mem h (fun k => (opWs.map fun s => [AV.str s])[k.toNat]? = some [AV.str (wordOf k)]) rfl rfl rfl rfl rfl rfl rfl
theorem opsText_spec (l : List TOp) (hg : goodOps l = true) : FSpec Tryz.prog 38 [AV.wt tabW (AV.list 4 (l.map TOp.cs))] (AV.str (opsB l)) := by
  have hl8 := goodOps_len hg
  have hlb := opsB_len hg
  refine spec_of_awp Tryz.func38 rfl Tryz.ntmps38 rfl ?_
  refine AWP.le (le_tab (t := 0) rfl) ?_
  refine awp_seq ?_
  refine awp_region ?_
  refine sq_plain rfl rfl rfl (w_assign rfl (ev_cs' (l := []) rfl)) ?_
  refine sq_nil ?_
  refine awp_seq ?_
  refine awp_region ?_
  refine sq_emptyarr rfl rfl rfl rfl Tryz.underlying34 Tryz.sizeOf9 ?_
  intro v7
  refine sq_plain rfl rfl rfl (w_assign rfl (ev_tmp rfl)) ?_
  refine sq_nil ?_
  refine awp_seq ?_
  refine awp_seq ?_
  refine awp_region ?_
  refine sq_plain rfl rfl rfl (w_move rfl (ev_tmp rfl)) ?_
  refine sq_plain rfl rfl rfl (w_llen rfl Tryz.underlying24 (ev_tmp rfl)) ?_
  refine sq_plain rfl rfl rfl (w_move rfl ev_ci) ?_
  refine sq_nil ?_
  refine awp_block ?_
  refine awp_loop_i2 [(2, _), (8, _), (9, _)] _ (fun (i : Nat) (v : Value) => i ≤ l.length) (fun (i : Nat) (v : Value) => [.arr v 9 1 (((l.take i).map opB).map fun s => [AV.str s])]) (fun (i : Nat) (v : Value) => [(3, AV.is v), (10, AV.int i)]) (fun (i : Nat) (v : Value) => l.length - i) (0) (v7) ?_ (le_eq (by rfl) ⟨rfl, rfl, rfl, rfl, rfl, trivial⟩) ?_
  · exact Nat.zero_le _
  intro i v hinv
  refine awp_seq ?_
  refine awp_region ?_
  refine sq_plain rfl rfl rfl (w_lss rfl (ev_tmp rfl) (ev_tmp rfl)) ?_
  refine sq_nil ?_
  refine awp_seq ?_
  refine awp_cond (ev_tmp rfl) ?_ ?_
  · intro h11
    have k11 := of_decide_eq_true h11; try simp only [List.length_map] at k11
    have hlt : i < l.length := by omega
    obtain ⟨x, hx⟩ := get_some hlt
    have hxg := goodOps_is hg x (List.mem_of_getElem? hx)
    have hxo := goodO hxg
    have hkn := hxo.kind
    have hw4 := word_len hxo.kind
    have hkv := isOp_lens hxg
    have hi5 := itoa_len5 hxo.by'
    have hby := hxo.by'
    refine awp_skip ?_
    refine awp_seq ?_
    refine awp_block ?_
    refine awp_seq ?_
    refine awp_region ?_
    refine sq_plain rfl rfl rfl (w_idxm rfl Tryz.underlying24 Tryz.sizeOf55 (ev_tmp rfl) (ev_tmp rfl) hx (by first | omega | ((try simp only [List.length_map, List.length_take, List.length_cons, List.length_nil, chunks_len, szR] at *); omega) | (have hc2 := hc; simp only [Bool.and_eq_true, Bool.or_eq_true, Bool.or_eq_false_iff, Bool.and_eq_false_iff, Bool.not_eq_true', Bool.not_eq_false', decide_eq_true_eq, decide_eq_false_iff_not, beq_iff_eq, bne_iff_ne, List.length_map, List.length_take] at hc2; omega))) ?_
    refine sq_plain rfl rfl rfl (w_loadE rfl (ev_tmp rfl) Tryz.isAgg55 Tryz.sizeOf55) ?_
    refine sq_alloc rfl rfl rfl rfl Tryz.zeroValue55 rfl ?_
    intro b5
    refine sq_storeB0 0 rfl rfl rfl (ev_tmp rfl) (ev_tmp rfl) (as_agg _) rfl Tryz.sizeOf55 rfl ?_
    refine sq_nil ?_
    refine awp_seq ?_
    refine awp_region_any (by kernel_rfl) (by kernel_rfl) rfl ?_
    refine ch_plain rfl rfl (w_call rfl Tryz.call43 rfl (opWords_spec) evl_nil) ?_
    refine ch_plain rfl rfl (w_fldBn 0 rfl Tryz.underlying55 rfl Tryz.sizeOf3 (ev_tmp rfl) rfl) ?_
    refine ch_plain rfl rfl (w_loadB1 0 rfl (ev_tmp rfl) rfl Tryz.isAgg3 rfl) ?_
    refine ch_plain rfl rfl (w_idx rfl Tryz.underlying34 Tryz.sizeOf9 (ev_tmp rfl) (ev_tmp rfl) (by omega) (word_get hxo.kind)) ?_
    refine ch_plain rfl rfl (w_loadE1 rfl (ev_tmp rfl) Tryz.isAgg9 rfl) ?_
    refine ch_plain rfl rfl (w_cat rfl (ev_tmp rfl) (ev_cs' (l := [32]) rfl) (by first | omega | (simp only [List.length_append, List.length_take, List.length_drop, List.length_cons, List.length_nil]; omega))) ?_
    refine ch_plain rfl rfl (w_fldBn 1 rfl Tryz.underlying55 rfl Tryz.sizeOf9 (ev_tmp rfl) rfl) ?_
    refine ch_plain rfl rfl (w_loadB1 0 rfl (ev_tmp rfl) rfl Tryz.isAgg9 rfl) ?_
    refine ch_plain rfl rfl (w_cat rfl (ev_tmp rfl) (ev_tmp rfl) (by first | omega | (simp only [List.length_append, List.length_take, List.length_drop, List.length_cons, List.length_nil]; omega))) ?_
    refine ch_plain rfl rfl (w_assign rfl (ev_tmp rfl)) ?_
    refine ch_nil ?_
    refine awp_seq ?_
    refine awp_seq ?_
    refine awp_region ?_
    refine sq_plain rfl rfl rfl (w_fldBn 0 rfl Tryz.underlying55 rfl Tryz.sizeOf3 (ev_tmp rfl) rfl) ?_
    refine sq_plain rfl rfl rfl (w_loadB1 0 rfl (ev_tmp rfl) rfl Tryz.isAgg3 rfl) ?_
    refine sq_plain rfl rfl rfl (w_call rfl Tryz.call44 rfl (hasVal_spec _) (evl_cons (ev_tmp rfl) evl_nil)) ?_
    refine sq_nil ?_
    refine awp_cond (ev_tmp rfl) ?_ ?_
    · intro h25
      refine awp_region ?_
      refine sq_plain rfl rfl rfl (w_move rfl (ev_tmp rfl)) ?_
      refine sq_plain rfl rfl rfl (w_fldBn 2 rfl Tryz.underlying55 rfl Tryz.sizeOf9 (ev_tmp rfl) rfl) ?_
      refine sq_plain rfl rfl rfl (w_loadB1 0 rfl (ev_tmp rfl) rfl Tryz.isAgg9 rfl) ?_
      refine sq_plain rfl rfl rfl (w_cat rfl (ev_cs' (l := [32]) rfl) (ev_tmp rfl) (by first | omega | (simp only [List.length_append, List.length_take, List.length_drop, List.length_cons, List.length_nil]; omega))) ?_
      refine sq_plain rfl rfl rfl (w_cat rfl (ev_tmp rfl) (ev_tmp rfl) (by first | omega | (simp only [List.length_append, List.length_take, List.length_drop, List.length_cons, List.length_nil]; omega))) ?_
      refine sq_plain rfl rfl rfl (w_assign rfl (ev_tmp rfl)) ?_
      refine sq_nil ?_
      refine awp_seq ?_
      refine awp_seq ?_
      refine awp_region ?_
      refine sq_plain rfl rfl rfl (w_fldBn 0 rfl Tryz.underlying55 rfl Tryz.sizeOf3 (ev_tmp rfl) rfl) ?_
      refine sq_plain rfl rfl rfl (w_loadB1 0 rfl (ev_tmp rfl) rfl Tryz.isAgg3 rfl) ?_
      refine sq_plain rfl rfl rfl (w_call rfl Tryz.call45 rfl (hasBy_spec _) (evl_cons (ev_tmp rfl) evl_nil)) ?_
      refine sq_nil ?_
      refine awp_cond (ev_tmp rfl) ?_ ?_
      · intro h33
        refine awp_region ?_
        refine sq_plain rfl rfl rfl (w_move rfl (ev_tmp rfl)) ?_
        refine sq_plain rfl rfl rfl (w_fldBn 3 rfl Tryz.underlying55 rfl Tryz.sizeOf3 (ev_tmp rfl) rfl) ?_
        refine sq_plain rfl rfl rfl (w_loadB1 0 rfl (ev_tmp rfl) rfl Tryz.isAgg3 rfl) ?_
        refine sq_plain rfl rfl rfl (w_callB rfl Tryz.call96 rfl (itoa_spec x.By (by omega)) (flat_str _) (evlb_cons (evb_wt 2 rfl (by first | exact fun _ h => h | exact fun _ h => h.1) (evb (ev_tmp rfl))) evlb_nil)) ?_
        refine sq_plain rfl rfl rfl (w_cat rfl (ev_cs' (l := [32]) rfl) (ev_tmp rfl) (by first | omega | (simp only [List.length_append, List.length_take, List.length_drop, List.length_cons, List.length_nil]; omega))) ?_
        refine sq_plain rfl rfl rfl (w_cat rfl (ev_tmp rfl) (ev_tmp rfl) (by first | omega | (simp only [List.length_append, List.length_take, List.length_drop, List.length_cons, List.length_nil]; omega))) ?_
        refine sq_plain rfl rfl rfl (w_assign rfl (ev_tmp rfl)) ?_
        refine sq_nil ?_
        refine awp_region ?_
        refine sq_plain rfl rfl rfl (w_move rfl (ev_tmp rfl)) ?_
        refine sq_plain rfl rfl rfl (w_move rfl (ev_tmp rfl)) ?_
        refine sq_plain rfl rfl rfl (w_bslice rfl Tryz.underlying34 Tryz.sizeOf9 Tryz.zeroValue9 rfl rfl rfl rfl (bp_cons (ev_tmp rfl) (as_str _) bp_nil) rfl rfl) ?_
        refine sq_append (by' := 16) 1 rfl rfl rfl rfl Tryz.underlying34 Tryz.type9 rfl rfl rfl rfl rfl rfl (ev_tmp rfl) (ev_tmp rfl) rfl (by simp only [List.length_map, List.length_take, chunks_len]; omega) ?_
        intro v43_1
        refine sq_plain rfl rfl rfl (w_assign rfl (ev_tmp rfl)) ?_
        refine sq_nil ?_
        refine awp_region ?_
        refine sq_plain rfl rfl rfl (w_addi rfl (ev_tmp rfl) ev_ci (by first | omega | ((try simp only [List.length_map, List.length_take, List.length_cons, List.length_nil, chunks_len, szR] at *); omega) | (have hc2 := hc; simp only [Bool.and_eq_true, Bool.or_eq_true, Bool.or_eq_false_iff, Bool.and_eq_false_iff, Bool.not_eq_true', Bool.not_eq_false', decide_eq_true_eq, decide_eq_false_iff_not, beq_iff_eq, bne_iff_ne, List.length_map, List.length_take] at hc2; omega))) ?_
        refine sq_plain rfl rfl rfl (w_move rfl (ev_tmp rfl)) ?_
        refine sq_nil ?_
        refine round_end2 i v (i + 1) (v43_1) ?_ ?_ (Le.trans (le_pick [0, 0] rfl) (le_dropeq 1 (by exact congrArg (fun z => Own.arr _ 9 1 z :: _) (by rw [List.take_add_one, hx]; show _ ++ [[AV.str _]] = _; simp [opB, opVal, opHd, h25, h33])) ⟨rfl, rfl, rfl, rfl, rfl, trivial⟩))
        · omega
        · omega
      · intro h33
        refine awp_skip ?_
        refine awp_region ?_
        refine sq_plain rfl rfl rfl (w_move rfl (ev_tmp rfl)) ?_
        refine sq_plain rfl rfl rfl (w_move rfl (ev_tmp rfl)) ?_
        refine sq_plain rfl rfl rfl (w_bslice rfl Tryz.underlying34 Tryz.sizeOf9 Tryz.zeroValue9 rfl rfl rfl rfl (bp_cons (ev_tmp rfl) (as_str _) bp_nil) rfl rfl) ?_
        refine sq_append (by' := 16) 1 rfl rfl rfl rfl Tryz.underlying34 Tryz.type9 rfl rfl rfl rfl rfl rfl (ev_tmp rfl) (ev_tmp rfl) rfl (by simp only [List.length_map, List.length_take, chunks_len]; omega) ?_
        intro v43_2
        refine sq_plain rfl rfl rfl (w_assign rfl (ev_tmp rfl)) ?_
        refine sq_nil ?_
        refine awp_region ?_
        refine sq_plain rfl rfl rfl (w_addi rfl (ev_tmp rfl) ev_ci (by first | omega | ((try simp only [List.length_map, List.length_take, List.length_cons, List.length_nil, chunks_len, szR] at *); omega) | (have hc2 := hc; simp only [Bool.and_eq_true, Bool.or_eq_true, Bool.or_eq_false_iff, Bool.and_eq_false_iff, Bool.not_eq_true', Bool.not_eq_false', decide_eq_true_eq, decide_eq_false_iff_not, beq_iff_eq, bne_iff_ne, List.length_map, List.length_take] at hc2; omega))) ?_
        refine sq_plain rfl rfl rfl (w_move rfl (ev_tmp rfl)) ?_
        refine sq_nil ?_
        refine round_end2 i v (i + 1) (v43_2) ?_ ?_ (Le.trans (le_pick [0, 0] rfl) (le_dropeq 1 (by exact congrArg (fun z => Own.arr _ 9 1 z :: _) (by rw [List.take_add_one, hx]; show _ ++ [[AV.str _]] = _; simp [opB, opVal, opHd, h25, h33])) ⟨rfl, rfl, rfl, rfl, rfl, trivial⟩))
        · omega
        · omega
    · intro h25
      refine awp_skip ?_
      refine awp_seq ?_
      refine awp_seq ?_
      refine awp_region ?_
      refine sq_plain rfl rfl rfl (w_fldBn 0 rfl Tryz.underlying55 rfl Tryz.sizeOf3 (ev_tmp rfl) rfl) ?_
      refine sq_plain rfl rfl rfl (w_loadB1 0 rfl (ev_tmp rfl) rfl Tryz.isAgg3 rfl) ?_
      refine sq_plain rfl rfl rfl (w_call rfl Tryz.call45 rfl (hasBy_spec _) (evl_cons (ev_tmp rfl) evl_nil)) ?_
      refine sq_nil ?_
      refine awp_cond (ev_tmp rfl) ?_ ?_
      · intro h33
        refine awp_region ?_
        refine sq_plain rfl rfl rfl (w_move rfl (ev_tmp rfl)) ?_
        refine sq_plain rfl rfl rfl (w_fldBn 3 rfl Tryz.underlying55 rfl Tryz.sizeOf3 (ev_tmp rfl) rfl) ?_
        refine sq_plain rfl rfl rfl (w_loadB1 0 rfl (ev_tmp rfl) rfl Tryz.isAgg3 rfl) ?_
        refine sq_plain rfl rfl rfl (w_callB rfl Tryz.call96 rfl (itoa_spec x.By (by omega)) (flat_str _) (evlb_cons (evb_wt 2 rfl (by first | exact fun _ h => h | exact fun _ h => h.1) (evb (ev_tmp rfl))) evlb_nil)) ?_
        refine sq_plain rfl rfl rfl (w_cat rfl (ev_cs' (l := [32]) rfl) (ev_tmp rfl) (by first | omega | (simp only [List.length_append, List.length_take, List.length_drop, List.length_cons, List.length_nil]; omega))) ?_
        refine sq_plain rfl rfl rfl (w_cat rfl (ev_tmp rfl) (ev_tmp rfl) (by first | omega | (simp only [List.length_append, List.length_take, List.length_drop, List.length_cons, List.length_nil]; omega))) ?_
        refine sq_plain rfl rfl rfl (w_assign rfl (ev_tmp rfl)) ?_
        refine sq_nil ?_
        refine awp_region ?_
        refine sq_plain rfl rfl rfl (w_move rfl (ev_tmp rfl)) ?_
        refine sq_plain rfl rfl rfl (w_move rfl (ev_tmp rfl)) ?_
        refine sq_plain rfl rfl rfl (w_bslice rfl Tryz.underlying34 Tryz.sizeOf9 Tryz.zeroValue9 rfl rfl rfl rfl (bp_cons (ev_tmp rfl) (as_str _) bp_nil) rfl rfl) ?_
        refine sq_append (by' := 16) 1 rfl rfl rfl rfl Tryz.underlying34 Tryz.type9 rfl rfl rfl rfl rfl rfl (ev_tmp rfl) (ev_tmp rfl) rfl (by simp only [List.length_map, List.length_take, chunks_len]; omega) ?_
        intro v43_3
        refine sq_plain rfl rfl rfl (w_assign rfl (ev_tmp rfl)) ?_
        refine sq_nil ?_
        refine awp_region ?_
        refine sq_plain rfl rfl rfl (w_addi rfl (ev_tmp rfl) ev_ci (by first | omega | ((try simp only [List.length_map, List.length_take, List.length_cons, List.length_nil, chunks_len, szR] at *); omega) | (have hc2 := hc; simp only [Bool.and_eq_true, Bool.or_eq_true, Bool.or_eq_false_iff, Bool.and_eq_false_iff, Bool.not_eq_true', Bool.not_eq_false', decide_eq_true_eq, decide_eq_false_iff_not, beq_iff_eq, bne_iff_ne, List.length_map, List.length_take] at hc2; omega))) ?_
        refine sq_plain rfl rfl rfl (w_move rfl (ev_tmp rfl)) ?_
        refine sq_nil ?_
        refine round_end2 i v (i + 1) (v43_3) ?_ ?_ (Le.trans (le_pick [0, 0] rfl) (le_dropeq 1 (by exact congrArg (fun z => Own.arr _ 9 1 z :: _) (by rw [List.take_add_one, hx]; show _ ++ [[AV.str _]] = _; simp [opB, opVal, opHd, h25, h33])) ⟨rfl, rfl, rfl, rfl, rfl, trivial⟩))
        · omega
        · omega
      · intro h33
        refine awp_skip ?_
        refine awp_region ?_
        refine sq_plain rfl rfl rfl (w_move rfl (ev_tmp rfl)) ?_
        refine sq_plain rfl rfl rfl (w_move rfl (ev_tmp rfl)) ?_
        refine sq_plain rfl rfl rfl (w_bslice rfl Tryz.underlying34 Tryz.sizeOf9 Tryz.zeroValue9 rfl rfl rfl rfl (bp_cons (ev_tmp rfl) (as_str _) bp_nil) rfl rfl) ?_
        refine sq_append (by' := 16) 1 rfl rfl rfl rfl Tryz.underlying34 Tryz.type9 rfl rfl rfl rfl rfl rfl (ev_tmp rfl) (ev_tmp rfl) rfl (by simp only [List.length_map, List.length_take, chunks_len]; omega) ?_
        intro v43_4
        refine sq_plain rfl rfl rfl (w_assign rfl (ev_tmp rfl)) ?_
        refine sq_nil ?_
        refine awp_region ?_
        refine sq_plain rfl rfl rfl (w_addi rfl (ev_tmp rfl) ev_ci (by first | omega | ((try simp only [List.length_map, List.length_take, List.length_cons, List.length_nil, chunks_len, szR] at *); omega) | (have hc2 := hc; simp only [Bool.and_eq_true, Bool.or_eq_true, Bool.or_eq_false_iff, Bool.and_eq_false_iff, Bool.not_eq_true', Bool.not_eq_false', decide_eq_true_eq, decide_eq_false_iff_not, beq_iff_eq, bne_iff_ne, List.length_map, List.length_take] at hc2; omega))) ?_
        refine sq_plain rfl rfl rfl (w_move rfl (ev_tmp rfl)) ?_
        refine sq_nil ?_
        refine round_end2 i v (i + 1) (v43_4) ?_ ?_ (Le.trans (le_pick [0, 0] rfl) (le_dropeq 1 (by exact congrArg (fun z => Own.arr _ 9 1 z :: _) (by rw [List.take_add_one, hx]; show _ ++ [[AV.str _]] = _; simp [opB, opVal, opHd, h25, h33])) ⟨rfl, rfl, rfl, rfl, rfl, trivial⟩))
        · omega
        · omega
  · intro h11
    have k11 := of_decide_eq_false h11; try simp only [List.length_map] at k11
    have hge : i = l.length := by omega
    rw [hge, List.take_length]
    refine awp_exit ?_
    refine awp_seq ?_
    refine awp_region ?_
    refine sq_plain rfl rfl rfl (w_move rfl (ev_tmp rfl)) ?_
    refine sq_callG [0] rfl rfl rfl rfl Tryz.call97 rfl (join_own _ (l.map opB) (by rw [List.length_map]; omega) (by unfold opsB at hlb; omega)) (evl_cons (ev_tmp rfl) (evl_cons (ev_cs' (l := [59, 32]) rfl) evl_nil)) rfl ?_
    intro x46 ok46
    refine sq_plain rfl rfl rfl (w_assign rfl (ev_tmp rfl)) ?_
    refine sq_nil ?_
    refine awp_ret ?_
    exact retR rfl (rv_tmp' rfl (by rfl))
theorem opsTextR_spec (l : List TOp) (hs : sizeL TOp.size l ≤ 1048576) : FSpec Tryz.prog 7 [AV.wt tabW (AV.list 4 (l.map TOp.cs))] (AV.tup [AV.str (opsTextR l).1, AV.bool (opsTextR l).2]) := by
  refine spec_of_awp Tryz.func7 rfl Tryz.ntmps7 rfl ?_
  refine AWP.le (le_tab (t := 0) rfl) ?_
  refine awp_seq ?_
  refine awp_region ?_
  refine sq_plain rfl rfl rfl (w_assign rfl (ev_cs' (l := []) rfl)) ?_
  refine sq_plain rfl rfl rfl (w_assign rfl ev_cb) ?_
  refine sq_nil ?_
  refine awp_seq ?_
  refine awp_seq ?_
  refine awp_region ?_
  refine sq_plain rfl rfl rfl (w_move rfl (ev_tmp rfl)) ?_
  refine sq_plain rfl rfl rfl (w_call rfl Tryz.call37 rfl (goodOps_spec _ (by first | assumption | omega)) (evl_cons (ev_tmp rfl) evl_nil)) ?_
  refine sq_plain rfl rfl rfl (w_not rfl (ev_tmp rfl)) ?_
  refine sq_nil ?_
  refine awp_cond (ev_tmp rfl) ?_ ?_
  · intro h6
    have he : opsTextR l = ([], false) := if_neg (by simpa using h6)
    rw [he]
    refine awp_seq ?_
    refine awp_region ?_
    refine sq_plain rfl rfl rfl (w_assign rfl (ev_cs' (l := []) rfl)) ?_
    refine sq_plain rfl rfl rfl (w_assign rfl ev_cb) ?_
    refine sq_nil ?_
    refine awp_ret ?_
    exact retN rfl (by decide) (rv_cons (rv_tmp' rfl (by rfl)) (rv_cons (rv_tmp' rfl (by rfl)) rv_nil))
  · intro h6
    have hg : goodOps l = true := by simpa using h6
    have he : opsTextR l = (opsB l, true) := if_pos hg
    rw [he]
    refine awp_skip ?_
    refine awp_seq ?_
    refine awp_region ?_
    refine sq_plain rfl rfl rfl (w_move rfl (ev_tmp rfl)) ?_
    refine sq_plain rfl rfl rfl (w_callB rfl Tryz.call38 rfl (opsText_spec _ (by first | assumption | omega)) (flat_str _) (evlb_cons (evb_wt 0 rfl (by first | exact fun _ h => h | exact fun _ h => h.1) (evb (ev_tmp rfl))) evlb_nil)) ?_
    refine sq_plain rfl rfl rfl (w_assign rfl (ev_tmp rfl)) ?_
    refine sq_plain rfl rfl rfl (w_assign rfl ev_cb) ?_
    refine sq_nil ?_
    refine awp_ret ?_
    exact retN rfl (by decide) (rv_cons (rv_tmp' rfl (by rfl)) (rv_cons (rv_tmp' rfl (by rfl)) rv_nil))
theorem l5Text_spec (n : Int) (h : -9999 ≤ n ∧ n ≤ 9999) : FSpec Tryz.prog 100 [AV.int n] (AV.str (itoaD n)) := by
  refine spec_of_awp Tryz.func100 rfl Tryz.ntmps100 rfl ?_
  refine awp_seq ?_
  refine awp_region ?_
  refine sq_plain rfl rfl rfl (w_assign rfl (ev_cs' (l := []) rfl)) ?_
  refine sq_nil ?_
  refine awp_seq ?_
  refine awp_seq ?_
  refine awp_region ?_
  refine sq_plain rfl rfl rfl (w_move rfl (ev_tmp rfl)) ?_
  refine sq_plain rfl rfl rfl (w_lss rfl (ev_tmp rfl) ev_ci) ?_
  refine sq_nil ?_
  refine awp_cond (ev_tmp rfl) ?_ ?_
  · intro h4
    have k4 := of_decide_eq_true h4; try simp only [List.length_map] at k4
    obtain ⟨m, hm⟩ : ∃ m : Nat, n = -(m : Int) := ⟨n.natAbs, by omega⟩
    subst hm
    have hdl := decD_len (k := 4) (n := m) (by omega) (by decide)
    have hneg : IntKind.i64.wrap (0 - -(m : Int)) = (m : Int) := by (rw [show 0 - -(m : Int) = m by omega]; exact in64 (by omega))
    rw [itoa_minus (by omega)]
    refine awp_seq ?_
    refine awp_region ?_
    refine sq_plain rfl rfl rfl (w_move rfl (ev_tmp rfl)) ?_
    refine sq_plain rfl rfl rfl (w_neg rfl (ev_tmp rfl)) ?_
    rw [hneg]
    refine sq_plain rfl rfl rfl (w_call rfl Tryz.call117 rfl (l1Num_spec m (by omega)) (evl_cons (ev_tmp rfl) evl_nil)) ?_
    refine sq_plain rfl rfl rfl (w_cat rfl (ev_cs' (l := [45]) rfl) (ev_tmp rfl) (by first | omega | (simp only [List.length_append, List.length_take, List.length_drop, List.length_cons, List.length_nil]; omega))) ?_
    refine sq_plain rfl rfl rfl (w_assign rfl (ev_tmp rfl)) ?_
    refine sq_nil ?_
    refine awp_ret ?_
    exact retR rfl (rv_tmp' rfl (by rfl))
  · intro h4
    have k4 := of_decide_eq_false h4; try simp only [List.length_map] at k4
    obtain ⟨m, hm⟩ : ∃ m : Nat, n = (m : Int) := ⟨n.toNat, by omega⟩
    subst hm
    rw [itoa_nat]
    refine awp_skip ?_
    refine awp_seq ?_
    refine awp_region ?_
    refine sq_plain rfl rfl rfl (w_move rfl (ev_tmp rfl)) ?_
    refine sq_plain rfl rfl rfl (w_call rfl Tryz.call117 rfl (l1Num_spec m (by omega)) (evl_cons (ev_tmp rfl) evl_nil)) ?_
    refine sq_plain rfl rfl rfl (w_assign rfl (ev_tmp rfl)) ?_
    refine sq_nil ?_
    refine awp_ret ?_
    exact retR rfl (rv_tmp' rfl (by rfl))
theorem l5Op_spec (o : TOp) (hs : o.size ≤ 1048576) : FSpec Tryz.prog 98 [AV.agg o.cs] (AV.bool (l5Op o)) := by
  have hs' := hs; unfold TOp.size at hs'
  refine spec_of_awp Tryz.func98 rfl Tryz.ntmps98 rfl ?_
  refine awp_seq ?_
  refine awp_region ?_
  refine sq_box rfl rfl rfl rfl (ev_tmp rfl) ?_
  intro b1
  refine sq_plain rfl rfl rfl (w_assign rfl ev_cb) ?_
  refine sq_nil ?_
  refine awp_seq ?_
  refine awp_seq ?_
  refine awp_region ?_
  refine sq_plain rfl rfl rfl (w_fldBn 1 rfl Tryz.underlying55 rfl Tryz.sizeOf9 (ev_tmp rfl) rfl) ?_
  refine sq_plain rfl rfl rfl (w_loadB1 0 rfl (ev_tmp rfl) rfl Tryz.isAgg9 rfl) ?_
  refine sq_plain rfl rfl rfl (w_call rfl Tryz.call143 rfl (l3Key_spec _ (by omega)) (evl_cons (ev_tmp rfl) evl_nil)) ?_
  refine sq_plain rfl rfl rfl (w_not rfl (ev_tmp rfl)) ?_
  refine sq_nil ?_
  refine awp_cond (ev_tmp rfl) ?_ ?_
  · intro h6
    refine awp_seq ?_
    refine awp_region ?_
    refine sq_plain rfl rfl rfl (w_assign rfl ev_cb) ?_
    refine sq_nil ?_
    refine awp_ret ?_
    exact retR rfl (rv_tmp' rfl (by exact congrArg AV.bool (by unfold l5Op hasValK hasByK; simp_all)))
  · intro h6
    refine awp_skip ?_
    refine awp_seq ?_
    refine awp_seq ?_
    refine awp_region ?_
    refine sq_plain rfl rfl rfl (w_fldBn 0 rfl Tryz.underlying55 rfl Tryz.sizeOf3 (ev_tmp rfl) rfl) ?_
    refine sq_plain rfl rfl rfl (w_loadB1 0 rfl (ev_tmp rfl) rfl Tryz.isAgg3 rfl) ?_
    refine sq_nil ?_
    refine awp_block ?_
    refine awp_seq ?_
    refine awp_seq ?_
    refine awp_region ?_
    refine sq_plain rfl rfl rfl (w_eql rfl (ev_tmp rfl) ev_ci) ?_
    refine sq_plain rfl rfl rfl (w_assign rfl (ev_tmp rfl)) ?_
    refine sq_nil ?_
    refine awp_cond (ev_tmp rfl) ?_ ?_
    · intro h9
      have k9 := eq_of_beqt h9; try simp only [List.length_map] at k9
      refine awp_skip ?_
      refine awp_cond (ev_tmp rfl) ?_ ?_
      · intro h9
        have k9 := eq_of_beqt h9; try simp only [List.length_map] at k9
        refine awp_seq ?_
        refine awp_region ?_
        refine sq_plain rfl rfl rfl (w_fldBn 2 rfl Tryz.underlying55 rfl Tryz.sizeOf9 (ev_tmp rfl) rfl) ?_
        refine sq_plain rfl rfl rfl (w_loadB1 0 rfl (ev_tmp rfl) rfl Tryz.isAgg9 rfl) ?_
        refine sq_plain rfl rfl rfl (w_call rfl Tryz.call144 rfl (l3Val_spec _ (by omega)) (evl_cons (ev_tmp rfl) evl_nil)) ?_
        refine sq_plain rfl rfl rfl (w_move rfl (ev_tmp rfl)) ?_
        refine sq_grd rfl rfl (guard_t rfl rfl rfl) (fun hc => w_fldBn 3 rfl Tryz.underlying55 rfl Tryz.sizeOf3 (ev_tmp rfl) rfl) ?_
        refine sq_grd rfl rfl (guard_t rfl rfl rfl) (fun hc => w_loadB1 0 rfl (ev_whn rfl hc) rfl Tryz.isAgg3 rfl) ?_
        refine sq_grd rfl rfl (guard_t rfl rfl rfl) (fun hc => w_eql rfl (ev_whn rfl hc) ev_ci) ?_
        refine sq_plain rfl rfl rfl (w_and rfl (ev_tmp rfl) (evif_w rfl)) ?_
        refine sq_plain rfl rfl rfl (w_assign rfl (ev_tmp rfl)) ?_
        refine sq_nil ?_
        refine awp_ret ?_
        exact retR rfl (rv_tmp' rfl (by exact congrArg AV.bool (by unfold l5Op hasValK hasByK; simp_all)))
      · intro h9
        have k9 := ne_of_beqf h9; try simp only [List.length_map] at k9
        refine awp_seq ?_
        refine awp_seq ?_
        refine awp_region ?_
        refine sq_plain rfl rfl rfl (w_eql rfl (ev_tmp rfl) ev_ci) ?_
        refine sq_plain rfl rfl rfl (w_assign rfl (ev_tmp rfl)) ?_
        refine sq_nil ?_
        refine awp_cond (ev_tmp rfl) ?_ ?_
        · intro h20
          have k20 := eq_of_beqt h20; try simp only [List.length_map] at k20
          refine awp_skip ?_
          refine awp_cond (ev_tmp rfl) ?_ ?_
          · intro h20
            have k20 := eq_of_beqt h20; try simp only [List.length_map] at k20
            refine awp_seq ?_
            refine awp_region ?_
            refine sq_plain rfl rfl rfl (w_fldBn 2 rfl Tryz.underlying55 rfl Tryz.sizeOf9 (ev_tmp rfl) rfl) ?_
            refine sq_plain rfl rfl rfl (w_loadB1 0 rfl (ev_tmp rfl) rfl Tryz.isAgg9 rfl) ?_
            refine sq_plain rfl rfl rfl (w_seql rfl (ev_tmp rfl) (ev_cs' (l := []) rfl)) ?_
            refine sq_plain rfl rfl rfl (w_move rfl (ev_tmp rfl)) ?_
            refine sq_grd rfl rfl (guard_t rfl rfl rfl) (fun hc => w_fldBn 3 rfl Tryz.underlying55 rfl Tryz.sizeOf3 (ev_tmp rfl) rfl) ?_
            refine sq_grd rfl rfl (guard_t rfl rfl rfl) (fun hc => w_loadB1 0 rfl (ev_whn rfl hc) rfl Tryz.isAgg3 rfl) ?_
            refine sq_grd rfl rfl (guard_t rfl rfl rfl) (fun hc => w_call rfl Tryz.call109 rfl (l1In_spec _ _ _) (evl_cons (ev_whn rfl hc) (evl_cons ev_ci (evl_cons ev_ci evl_nil)))) ?_
            refine sq_plain rfl rfl rfl (w_and rfl (ev_tmp rfl) (evif_w rfl)) ?_
            refine sq_plain rfl rfl rfl (w_assign rfl (ev_tmp rfl)) ?_
            refine sq_nil ?_
            refine awp_ret ?_
            exact retR rfl (rv_tmp' rfl (by exact congrArg AV.bool (by unfold l5Op hasValK hasByK; simp_all)))
          · intro h20
            have k20 := ne_of_beqf h20; try simp only [List.length_map] at k20
            refine awp_skip ?_
            refine awp_seq ?_
            refine awp_region ?_
            refine sq_plain rfl rfl rfl (w_fldBn 0 rfl Tryz.underlying55 rfl Tryz.sizeOf3 (ev_tmp rfl) rfl) ?_
            refine sq_plain rfl rfl rfl (w_loadB1 0 rfl (ev_tmp rfl) rfl Tryz.isAgg3 rfl) ?_
            refine sq_plain rfl rfl rfl (w_eql rfl (ev_tmp rfl) ev_ci) ?_
            refine sq_plain rfl rfl rfl (w_move rfl (ev_tmp rfl)) ?_
            refine sq_grd rfl rfl (guard_f rfl rfl rfl) (fun hc => w_fldBn 0 rfl Tryz.underlying55 rfl Tryz.sizeOf3 (ev_tmp rfl) rfl) ?_
            refine sq_grd rfl rfl (guard_f rfl rfl rfl) (fun hc => w_loadB1 0 rfl (ev_whn rfl hc) rfl Tryz.isAgg3 rfl) ?_
            refine sq_grd rfl rfl (guard_f rfl rfl rfl) (fun hc => w_eql rfl (ev_whn rfl hc) ev_ci) ?_
            refine sq_plain rfl rfl rfl (w_or rfl (ev_tmp rfl) (evif_w rfl)) ?_
            refine sq_plain rfl rfl rfl (w_move rfl (ev_tmp rfl)) ?_
            refine sq_grd rfl rfl (guard_f rfl rfl rfl) (fun hc => w_fldBn 0 rfl Tryz.underlying55 rfl Tryz.sizeOf3 (ev_tmp rfl) rfl) ?_
            refine sq_grd rfl rfl (guard_f rfl rfl rfl) (fun hc => w_loadB1 0 rfl (ev_whn rfl hc) rfl Tryz.isAgg3 rfl) ?_
            refine sq_grd rfl rfl (guard_f rfl rfl rfl) (fun hc => w_eql rfl (ev_whn rfl hc) ev_ci) ?_
            refine sq_plain rfl rfl rfl (w_or rfl (ev_tmp rfl) (evif_w rfl)) ?_
            refine sq_plain rfl rfl rfl (w_move rfl (ev_tmp rfl)) ?_
            refine sq_grd rfl rfl (guard_t rfl rfl rfl) (fun hc => w_fldBn 2 rfl Tryz.underlying55 rfl Tryz.sizeOf9 (ev_tmp rfl) rfl) ?_
            refine sq_grd rfl rfl (guard_t rfl rfl rfl) (fun hc => w_loadB1 0 rfl (ev_whn rfl hc) rfl Tryz.isAgg9 rfl) ?_
            refine sq_grd rfl rfl (guard_t rfl rfl rfl) (fun hc => w_seql rfl (ev_whn rfl hc) (ev_cs' (l := []) rfl)) ?_
            refine sq_plain rfl rfl rfl (w_and rfl (ev_tmp rfl) (evif_w rfl)) ?_
            refine sq_plain rfl rfl rfl (w_move rfl (ev_tmp rfl)) ?_
            refine sq_grd rfl rfl (guard_t rfl rfl rfl) (fun hc => w_fldBn 3 rfl Tryz.underlying55 rfl Tryz.sizeOf3 (ev_tmp rfl) rfl) ?_
            refine sq_grd rfl rfl (guard_t rfl rfl rfl) (fun hc => w_loadB1 0 rfl (ev_whn rfl hc) rfl Tryz.isAgg3 rfl) ?_
            refine sq_grd rfl rfl (guard_t rfl rfl rfl) (fun hc => w_eql rfl (ev_whn rfl hc) ev_ci) ?_
            refine sq_plain rfl rfl rfl (w_and rfl (ev_tmp rfl) (evif_w rfl)) ?_
            refine sq_plain rfl rfl rfl (w_assign rfl (ev_tmp rfl)) ?_
            refine sq_nil ?_
            refine awp_ret ?_
            exact retR rfl (rv_tmp' rfl (by exact congrArg AV.bool (by unfold l5Op hasValK hasByK; simp_all)))
        · intro h20
          have k20 := ne_of_beqf h20; try simp only [List.length_map] at k20
          refine awp_region ?_
          refine sq_plain rfl rfl rfl (w_eql rfl (ev_tmp rfl) ev_ci) ?_
          refine sq_plain rfl rfl rfl (w_assign rfl (ev_tmp rfl)) ?_
          refine sq_nil ?_
          refine awp_cond (ev_tmp rfl) ?_ ?_
          · intro h20
            have k20 := eq_of_beqt h20; try simp only [List.length_map] at k20
            refine awp_seq ?_
            refine awp_region ?_
            refine sq_plain rfl rfl rfl (w_fldBn 2 rfl Tryz.underlying55 rfl Tryz.sizeOf9 (ev_tmp rfl) rfl) ?_
            refine sq_plain rfl rfl rfl (w_loadB1 0 rfl (ev_tmp rfl) rfl Tryz.isAgg9 rfl) ?_
            refine sq_plain rfl rfl rfl (w_seql rfl (ev_tmp rfl) (ev_cs' (l := []) rfl)) ?_
            refine sq_plain rfl rfl rfl (w_move rfl (ev_tmp rfl)) ?_
            refine sq_grd rfl rfl (guard_t rfl rfl rfl) (fun hc => w_fldBn 3 rfl Tryz.underlying55 rfl Tryz.sizeOf3 (ev_tmp rfl) rfl) ?_
            refine sq_grd rfl rfl (guard_t rfl rfl rfl) (fun hc => w_loadB1 0 rfl (ev_whn rfl hc) rfl Tryz.isAgg3 rfl) ?_
            refine sq_grd rfl rfl (guard_t rfl rfl rfl) (fun hc => w_call rfl Tryz.call109 rfl (l1In_spec _ _ _) (evl_cons (ev_whn rfl hc) (evl_cons ev_ci (evl_cons ev_ci evl_nil)))) ?_
            refine sq_plain rfl rfl rfl (w_and rfl (ev_tmp rfl) (evif_w rfl)) ?_
            refine sq_plain rfl rfl rfl (w_assign rfl (ev_tmp rfl)) ?_
            refine sq_nil ?_
            refine awp_ret ?_
            exact retR rfl (rv_tmp' rfl (by exact congrArg AV.bool (by unfold l5Op hasValK hasByK; simp_all)))
          · intro h20
            have k20 := ne_of_beqf h20; try simp only [List.length_map] at k20
            refine awp_skip ?_
            refine awp_seq ?_
            refine awp_region ?_
            refine sq_plain rfl rfl rfl (w_fldBn 0 rfl Tryz.underlying55 rfl Tryz.sizeOf3 (ev_tmp rfl) rfl) ?_
            refine sq_plain rfl rfl rfl (w_loadB1 0 rfl (ev_tmp rfl) rfl Tryz.isAgg3 rfl) ?_
            refine sq_plain rfl rfl rfl (w_eql rfl (ev_tmp rfl) ev_ci) ?_
            refine sq_plain rfl rfl rfl (w_move rfl (ev_tmp rfl)) ?_
            refine sq_grd rfl rfl (guard_f rfl rfl rfl) (fun hc => w_fldBn 0 rfl Tryz.underlying55 rfl Tryz.sizeOf3 (ev_tmp rfl) rfl) ?_
            refine sq_grd rfl rfl (guard_f rfl rfl rfl) (fun hc => w_loadB1 0 rfl (ev_whn rfl hc) rfl Tryz.isAgg3 rfl) ?_
            refine sq_grd rfl rfl (guard_f rfl rfl rfl) (fun hc => w_eql rfl (ev_whn rfl hc) ev_ci) ?_
            refine sq_plain rfl rfl rfl (w_or rfl (ev_tmp rfl) (evif_w rfl)) ?_
            refine sq_plain rfl rfl rfl (w_move rfl (ev_tmp rfl)) ?_
            refine sq_grd rfl rfl (guard_f rfl rfl rfl) (fun hc => w_fldBn 0 rfl Tryz.underlying55 rfl Tryz.sizeOf3 (ev_tmp rfl) rfl) ?_
            refine sq_grd rfl rfl (guard_f rfl rfl rfl) (fun hc => w_loadB1 0 rfl (ev_whn rfl hc) rfl Tryz.isAgg3 rfl) ?_
            refine sq_grd rfl rfl (guard_f rfl rfl rfl) (fun hc => w_eql rfl (ev_whn rfl hc) ev_ci) ?_
            refine sq_plain rfl rfl rfl (w_or rfl (ev_tmp rfl) (evif_w rfl)) ?_
            refine sq_plain rfl rfl rfl (w_move rfl (ev_tmp rfl)) ?_
            refine sq_grd rfl rfl (guard_t rfl rfl rfl) (fun hc => w_fldBn 2 rfl Tryz.underlying55 rfl Tryz.sizeOf9 (ev_tmp rfl) rfl) ?_
            refine sq_grd rfl rfl (guard_t rfl rfl rfl) (fun hc => w_loadB1 0 rfl (ev_whn rfl hc) rfl Tryz.isAgg9 rfl) ?_
            refine sq_grd rfl rfl (guard_t rfl rfl rfl) (fun hc => w_seql rfl (ev_whn rfl hc) (ev_cs' (l := []) rfl)) ?_
            refine sq_plain rfl rfl rfl (w_and rfl (ev_tmp rfl) (evif_w rfl)) ?_
            refine sq_plain rfl rfl rfl (w_move rfl (ev_tmp rfl)) ?_
            refine sq_grd rfl rfl (guard_t rfl rfl rfl) (fun hc => w_fldBn 3 rfl Tryz.underlying55 rfl Tryz.sizeOf3 (ev_tmp rfl) rfl) ?_
            refine sq_grd rfl rfl (guard_t rfl rfl rfl) (fun hc => w_loadB1 0 rfl (ev_whn rfl hc) rfl Tryz.isAgg3 rfl) ?_
            refine sq_grd rfl rfl (guard_t rfl rfl rfl) (fun hc => w_eql rfl (ev_whn rfl hc) ev_ci) ?_
            refine sq_plain rfl rfl rfl (w_and rfl (ev_tmp rfl) (evif_w rfl)) ?_
            refine sq_plain rfl rfl rfl (w_assign rfl (ev_tmp rfl)) ?_
            refine sq_nil ?_
            refine awp_ret ?_
            exact retR rfl (rv_tmp' rfl (by exact congrArg AV.bool (by unfold l5Op hasValK hasByK; simp_all)))
    · intro h9
      have k9 := ne_of_beqf h9; try simp only [List.length_map] at k9
      refine awp_region ?_
      refine sq_plain rfl rfl rfl (w_eql rfl (ev_tmp rfl) ev_ci) ?_
      refine sq_plain rfl rfl rfl (w_assign rfl (ev_tmp rfl)) ?_
      refine sq_nil ?_
      refine awp_cond (ev_tmp rfl) ?_ ?_
      · intro h9
        have k9 := eq_of_beqt h9; try simp only [List.length_map] at k9
        refine awp_seq ?_
        refine awp_region ?_
        refine sq_plain rfl rfl rfl (w_fldBn 2 rfl Tryz.underlying55 rfl Tryz.sizeOf9 (ev_tmp rfl) rfl) ?_
        refine sq_plain rfl rfl rfl (w_loadB1 0 rfl (ev_tmp rfl) rfl Tryz.isAgg9 rfl) ?_
        refine sq_plain rfl rfl rfl (w_call rfl Tryz.call144 rfl (l3Val_spec _ (by omega)) (evl_cons (ev_tmp rfl) evl_nil)) ?_
        refine sq_plain rfl rfl rfl (w_move rfl (ev_tmp rfl)) ?_
        refine sq_grd rfl rfl (guard_t rfl rfl rfl) (fun hc => w_fldBn 3 rfl Tryz.underlying55 rfl Tryz.sizeOf3 (ev_tmp rfl) rfl) ?_
        refine sq_grd rfl rfl (guard_t rfl rfl rfl) (fun hc => w_loadB1 0 rfl (ev_whn rfl hc) rfl Tryz.isAgg3 rfl) ?_
        refine sq_grd rfl rfl (guard_t rfl rfl rfl) (fun hc => w_eql rfl (ev_whn rfl hc) ev_ci) ?_
        refine sq_plain rfl rfl rfl (w_and rfl (ev_tmp rfl) (evif_w rfl)) ?_
        refine sq_plain rfl rfl rfl (w_assign rfl (ev_tmp rfl)) ?_
        refine sq_nil ?_
        refine awp_ret ?_
        exact retR rfl (rv_tmp' rfl (by exact congrArg AV.bool (by unfold l5Op hasValK hasByK; simp_all)))
      · intro h9
        have k9 := ne_of_beqf h9; try simp only [List.length_map] at k9
        refine awp_seq ?_
        refine awp_seq ?_
        refine awp_region ?_
        refine sq_plain rfl rfl rfl (w_eql rfl (ev_tmp rfl) ev_ci) ?_
        refine sq_plain rfl rfl rfl (w_assign rfl (ev_tmp rfl)) ?_
        refine sq_nil ?_
        refine awp_cond (ev_tmp rfl) ?_ ?_
        · intro h20
          have k20 := eq_of_beqt h20; try simp only [List.length_map] at k20
          refine awp_skip ?_
          refine awp_cond (ev_tmp rfl) ?_ ?_
          · intro h20
            have k20 := eq_of_beqt h20; try simp only [List.length_map] at k20
            refine awp_seq ?_
            refine awp_region ?_
            refine sq_plain rfl rfl rfl (w_fldBn 2 rfl Tryz.underlying55 rfl Tryz.sizeOf9 (ev_tmp rfl) rfl) ?_
            refine sq_plain rfl rfl rfl (w_loadB1 0 rfl (ev_tmp rfl) rfl Tryz.isAgg9 rfl) ?_
            refine sq_plain rfl rfl rfl (w_seql rfl (ev_tmp rfl) (ev_cs' (l := []) rfl)) ?_
            refine sq_plain rfl rfl rfl (w_move rfl (ev_tmp rfl)) ?_
            refine sq_grd rfl rfl (guard_t rfl rfl rfl) (fun hc => w_fldBn 3 rfl Tryz.underlying55 rfl Tryz.sizeOf3 (ev_tmp rfl) rfl) ?_
            refine sq_grd rfl rfl (guard_t rfl rfl rfl) (fun hc => w_loadB1 0 rfl (ev_whn rfl hc) rfl Tryz.isAgg3 rfl) ?_
            refine sq_grd rfl rfl (guard_t rfl rfl rfl) (fun hc => w_call rfl Tryz.call109 rfl (l1In_spec _ _ _) (evl_cons (ev_whn rfl hc) (evl_cons ev_ci (evl_cons ev_ci evl_nil)))) ?_
            refine sq_plain rfl rfl rfl (w_and rfl (ev_tmp rfl) (evif_w rfl)) ?_
            refine sq_plain rfl rfl rfl (w_assign rfl (ev_tmp rfl)) ?_
            refine sq_nil ?_
            refine awp_ret ?_
            exact retR rfl (rv_tmp' rfl (by exact congrArg AV.bool (by unfold l5Op hasValK hasByK; simp_all)))
          · intro h20
            have k20 := ne_of_beqf h20; try simp only [List.length_map] at k20
            refine awp_skip ?_
            refine awp_seq ?_
            refine awp_region ?_
            refine sq_plain rfl rfl rfl (w_fldBn 0 rfl Tryz.underlying55 rfl Tryz.sizeOf3 (ev_tmp rfl) rfl) ?_
            refine sq_plain rfl rfl rfl (w_loadB1 0 rfl (ev_tmp rfl) rfl Tryz.isAgg3 rfl) ?_
            refine sq_plain rfl rfl rfl (w_eql rfl (ev_tmp rfl) ev_ci) ?_
            refine sq_plain rfl rfl rfl (w_move rfl (ev_tmp rfl)) ?_
            refine sq_grd rfl rfl (guard_f rfl rfl rfl) (fun hc => w_fldBn 0 rfl Tryz.underlying55 rfl Tryz.sizeOf3 (ev_tmp rfl) rfl) ?_
            refine sq_grd rfl rfl (guard_f rfl rfl rfl) (fun hc => w_loadB1 0 rfl (ev_whn rfl hc) rfl Tryz.isAgg3 rfl) ?_
            refine sq_grd rfl rfl (guard_f rfl rfl rfl) (fun hc => w_eql rfl (ev_whn rfl hc) ev_ci) ?_
            refine sq_plain rfl rfl rfl (w_or rfl (ev_tmp rfl) (evif_w rfl)) ?_
            refine sq_plain rfl rfl rfl (w_move rfl (ev_tmp rfl)) ?_
            refine sq_grd rfl rfl (guard_f rfl rfl rfl) (fun hc => w_fldBn 0 rfl Tryz.underlying55 rfl Tryz.sizeOf3 (ev_tmp rfl) rfl) ?_
            refine sq_grd rfl rfl (guard_f rfl rfl rfl) (fun hc => w_loadB1 0 rfl (ev_whn rfl hc) rfl Tryz.isAgg3 rfl) ?_
            refine sq_grd rfl rfl (guard_f rfl rfl rfl) (fun hc => w_eql rfl (ev_whn rfl hc) ev_ci) ?_
            refine sq_plain rfl rfl rfl (w_or rfl (ev_tmp rfl) (evif_w rfl)) ?_
            refine sq_plain rfl rfl rfl (w_move rfl (ev_tmp rfl)) ?_
            refine sq_grd rfl rfl (guard_t rfl rfl rfl) (fun hc => w_fldBn 2 rfl Tryz.underlying55 rfl Tryz.sizeOf9 (ev_tmp rfl) rfl) ?_
            refine sq_grd rfl rfl (guard_t rfl rfl rfl) (fun hc => w_loadB1 0 rfl (ev_whn rfl hc) rfl Tryz.isAgg9 rfl) ?_
            refine sq_grd rfl rfl (guard_t rfl rfl rfl) (fun hc => w_seql rfl (ev_whn rfl hc) (ev_cs' (l := []) rfl)) ?_
            refine sq_plain rfl rfl rfl (w_and rfl (ev_tmp rfl) (evif_w rfl)) ?_
            refine sq_plain rfl rfl rfl (w_move rfl (ev_tmp rfl)) ?_
            refine sq_grd rfl rfl (guard_t rfl rfl rfl) (fun hc => w_fldBn 3 rfl Tryz.underlying55 rfl Tryz.sizeOf3 (ev_tmp rfl) rfl) ?_
            refine sq_grd rfl rfl (guard_t rfl rfl rfl) (fun hc => w_loadB1 0 rfl (ev_whn rfl hc) rfl Tryz.isAgg3 rfl) ?_
            refine sq_grd rfl rfl (guard_t rfl rfl rfl) (fun hc => w_eql rfl (ev_whn rfl hc) ev_ci) ?_
            refine sq_plain rfl rfl rfl (w_and rfl (ev_tmp rfl) (evif_w rfl)) ?_
            refine sq_plain rfl rfl rfl (w_assign rfl (ev_tmp rfl)) ?_
            refine sq_nil ?_
            refine awp_ret ?_
            exact retR rfl (rv_tmp' rfl (by exact congrArg AV.bool (by unfold l5Op hasValK hasByK; simp_all)))
        · intro h20
          have k20 := ne_of_beqf h20; try simp only [List.length_map] at k20
          refine awp_region ?_
          refine sq_plain rfl rfl rfl (w_eql rfl (ev_tmp rfl) ev_ci) ?_
          refine sq_plain rfl rfl rfl (w_assign rfl (ev_tmp rfl)) ?_
          refine sq_nil ?_
          refine awp_cond (ev_tmp rfl) ?_ ?_
          · intro h20
            have k20 := eq_of_beqt h20; try simp only [List.length_map] at k20
            refine awp_seq ?_
            refine awp_region ?_
            refine sq_plain rfl rfl rfl (w_fldBn 2 rfl Tryz.underlying55 rfl Tryz.sizeOf9 (ev_tmp rfl) rfl) ?_
            refine sq_plain rfl rfl rfl (w_loadB1 0 rfl (ev_tmp rfl) rfl Tryz.isAgg9 rfl) ?_
            refine sq_plain rfl rfl rfl (w_seql rfl (ev_tmp rfl) (ev_cs' (l := []) rfl)) ?_
            refine sq_plain rfl rfl rfl (w_move rfl (ev_tmp rfl)) ?_
            refine sq_grd rfl rfl (guard_t rfl rfl rfl) (fun hc => w_fldBn 3 rfl Tryz.underlying55 rfl Tryz.sizeOf3 (ev_tmp rfl) rfl) ?_
            refine sq_grd rfl rfl (guard_t rfl rfl rfl) (fun hc => w_loadB1 0 rfl (ev_whn rfl hc) rfl Tryz.isAgg3 rfl) ?_
            refine sq_grd rfl rfl (guard_t rfl rfl rfl) (fun hc => w_call rfl Tryz.call109 rfl (l1In_spec _ _ _) (evl_cons (ev_whn rfl hc) (evl_cons ev_ci (evl_cons ev_ci evl_nil)))) ?_
            refine sq_plain rfl rfl rfl (w_and rfl (ev_tmp rfl) (evif_w rfl)) ?_
            refine sq_plain rfl rfl rfl (w_assign rfl (ev_tmp rfl)) ?_
            refine sq_nil ?_
            refine awp_ret ?_
            exact retR rfl (rv_tmp' rfl (by exact congrArg AV.bool (by unfold l5Op hasValK hasByK; simp_all)))
          · intro h20
            have k20 := ne_of_beqf h20; try simp only [List.length_map] at k20
            refine awp_skip ?_
            refine awp_seq ?_
            refine awp_region ?_
            refine sq_plain rfl rfl rfl (w_fldBn 0 rfl Tryz.underlying55 rfl Tryz.sizeOf3 (ev_tmp rfl) rfl) ?_
            refine sq_plain rfl rfl rfl (w_loadB1 0 rfl (ev_tmp rfl) rfl Tryz.isAgg3 rfl) ?_
            refine sq_plain rfl rfl rfl (w_eql rfl (ev_tmp rfl) ev_ci) ?_
            refine sq_plain rfl rfl rfl (w_move rfl (ev_tmp rfl)) ?_
            refine sq_grd rfl rfl (guard_f rfl rfl rfl) (fun hc => w_fldBn 0 rfl Tryz.underlying55 rfl Tryz.sizeOf3 (ev_tmp rfl) rfl) ?_
            refine sq_grd rfl rfl (guard_f rfl rfl rfl) (fun hc => w_loadB1 0 rfl (ev_whn rfl hc) rfl Tryz.isAgg3 rfl) ?_
            refine sq_grd rfl rfl (guard_f rfl rfl rfl) (fun hc => w_eql rfl (ev_whn rfl hc) ev_ci) ?_
            refine sq_plain rfl rfl rfl (w_or rfl (ev_tmp rfl) (evif_w rfl)) ?_
            refine sq_plain rfl rfl rfl (w_move rfl (ev_tmp rfl)) ?_
            refine sq_grd rfl rfl (guard_f rfl rfl rfl) (fun hc => w_fldBn 0 rfl Tryz.underlying55 rfl Tryz.sizeOf3 (ev_tmp rfl) rfl) ?_
            refine sq_grd rfl rfl (guard_f rfl rfl rfl) (fun hc => w_loadB1 0 rfl (ev_whn rfl hc) rfl Tryz.isAgg3 rfl) ?_
            refine sq_grd rfl rfl (guard_f rfl rfl rfl) (fun hc => w_eql rfl (ev_whn rfl hc) ev_ci) ?_
            refine sq_plain rfl rfl rfl (w_or rfl (ev_tmp rfl) (evif_w rfl)) ?_
            refine sq_plain rfl rfl rfl (w_move rfl (ev_tmp rfl)) ?_
            refine sq_grd rfl rfl (guard_t rfl rfl rfl) (fun hc => w_fldBn 2 rfl Tryz.underlying55 rfl Tryz.sizeOf9 (ev_tmp rfl) rfl) ?_
            refine sq_grd rfl rfl (guard_t rfl rfl rfl) (fun hc => w_loadB1 0 rfl (ev_whn rfl hc) rfl Tryz.isAgg9 rfl) ?_
            refine sq_grd rfl rfl (guard_t rfl rfl rfl) (fun hc => w_seql rfl (ev_whn rfl hc) (ev_cs' (l := []) rfl)) ?_
            refine sq_plain rfl rfl rfl (w_and rfl (ev_tmp rfl) (evif_w rfl)) ?_
            refine sq_plain rfl rfl rfl (w_move rfl (ev_tmp rfl)) ?_
            refine sq_grd rfl rfl (guard_t rfl rfl rfl) (fun hc => w_fldBn 3 rfl Tryz.underlying55 rfl Tryz.sizeOf3 (ev_tmp rfl) rfl) ?_
            refine sq_grd rfl rfl (guard_t rfl rfl rfl) (fun hc => w_loadB1 0 rfl (ev_whn rfl hc) rfl Tryz.isAgg3 rfl) ?_
            refine sq_grd rfl rfl (guard_t rfl rfl rfl) (fun hc => w_eql rfl (ev_whn rfl hc) ev_ci) ?_
            refine sq_plain rfl rfl rfl (w_and rfl (ev_tmp rfl) (evif_w rfl)) ?_
            refine sq_plain rfl rfl rfl (w_assign rfl (ev_tmp rfl)) ?_
            refine sq_nil ?_
            refine awp_ret ?_
            exact retR rfl (rv_tmp' rfl (by exact congrArg AV.bool (by unfold l5Op hasValK hasByK; simp_all)))
theorem l5Good_spec (l : List TOp) (hs : sizeL TOp.size l ≤ 1048576) : FSpec Tryz.prog 39 [AV.list 4 (l.map TOp.cs)] (AV.bool (l5Good l)) := by
  refine spec_of_awp Tryz.func39 rfl Tryz.ntmps39 rfl ?_
  refine awp_len (t := 0) rfl fun hl => ?_
  try simp only [List.length_map] at hl
  refine awp_seq ?_
  refine awp_region ?_
  refine sq_plain rfl rfl rfl (w_assign rfl ev_cb) ?_
  refine sq_nil ?_
  refine awp_seq ?_
  refine awp_seq ?_
  refine awp_region ?_
  refine sq_plain rfl rfl rfl (w_move rfl (ev_tmp rfl)) ?_
  refine sq_plain rfl rfl rfl (w_llen rfl Tryz.underlying24 (ev_tmp rfl)) ?_
  refine sq_plain rfl rfl rfl (w_move rfl ev_ci) ?_
  refine sq_nil ?_
  refine awp_block ?_
  refine awp_loop_i [(0, _), (5, _), (6, _)] _ (fun (i : Nat) => i ≤ l.length ∧ l.all l5Op = (l.drop i).all l5Op) (fun (i : Nat) => []) (fun (i : Nat) => [(7, AV.int i)]) (fun (i : Nat) => l.length - i) (0) ?_ (le_env ⟨rfl, rfl, rfl, rfl, trivial⟩) ?_
  · exact ⟨Nat.zero_le _, rfl⟩
  intro i hinv
  refine awp_seq ?_
  refine awp_region ?_
  refine sq_plain rfl rfl rfl (w_lss rfl (ev_tmp rfl) (ev_tmp rfl)) ?_
  refine sq_nil ?_
  refine awp_seq ?_
  refine awp_cond (ev_tmp rfl) ?_ ?_
  · intro h8
    have k8 := of_decide_eq_true h8; try simp only [List.length_map] at k8
    have hlt : i < l.length := by omega
    obtain ⟨x, hx⟩ := get_some hlt
    have hsx : x.size ≤ 1048576 := Nat.le_trans (sizeL_get hx) hs
    refine awp_skip ?_
    refine awp_seq ?_
    refine awp_block ?_
    refine awp_seq ?_
    refine awp_region ?_
    refine sq_plain rfl rfl rfl (w_idxm rfl Tryz.underlying24 Tryz.sizeOf55 (ev_tmp rfl) (ev_tmp rfl) hx (by first | omega | ((try simp only [List.length_map, List.length_take, List.length_cons, List.length_nil, chunks_len, szR] at *); omega) | (have hc2 := hc; simp only [Bool.and_eq_true, Bool.or_eq_true, Bool.or_eq_false_iff, Bool.and_eq_false_iff, Bool.not_eq_true', Bool.not_eq_false', decide_eq_true_eq, decide_eq_false_iff_not, beq_iff_eq, bne_iff_ne, List.length_map, List.length_take] at hc2; omega))) ?_
    refine sq_plain rfl rfl rfl (w_loadE rfl (ev_tmp rfl) Tryz.isAgg55 Tryz.sizeOf55) ?_
    refine sq_alloc rfl rfl rfl rfl Tryz.zeroValue55 rfl ?_
    intro b4
    refine sq_storeB0 0 rfl rfl rfl (ev_tmp rfl) (ev_tmp rfl) (as_agg _) rfl Tryz.sizeOf55 rfl ?_
    refine sq_nil ?_
    refine awp_seq ?_
    refine awp_region ?_
    refine sq_plain rfl rfl rfl (w_loadA 0 rfl (ev_tmp rfl) rfl Tryz.isAgg55 Tryz.sizeOf55 rfl) ?_
    refine sq_plain rfl rfl rfl (w_call rfl Tryz.call98 rfl (l5Op_spec _ (by first | assumption | omega)) (evl_cons (ev_tmp rfl) evl_nil)) ?_
    refine sq_plain rfl rfl rfl (w_not rfl (ev_tmp rfl)) ?_
    refine sq_nil ?_
    refine awp_cond (ev_tmp rfl) ?_ ?_
    · intro h13
      have hno : l5Good l = false := by (unfold l5Good; rw [hinv.2, drop_some hx, List.all_cons]; simp_all)
      rw [hno]
      refine awp_seq ?_
      refine awp_region ?_
      refine sq_plain rfl rfl rfl (w_assign rfl ev_cb) ?_
      refine sq_nil ?_
      refine awp_ret ?_
      exact retR rfl (rv_tmp' rfl (by first | rfl | exact congrArg AV.bool (by unfold l5Good; rw [hall]; simp)))
    · intro h13
      refine awp_skip ?_
      refine awp_region ?_
      refine sq_plain rfl rfl rfl (w_addi rfl (ev_tmp rfl) ev_ci (by first | omega | ((try simp only [List.length_map, List.length_take, List.length_cons, List.length_nil, chunks_len, szR] at *); omega) | (have hc2 := hc; simp only [Bool.and_eq_true, Bool.or_eq_true, Bool.or_eq_false_iff, Bool.and_eq_false_iff, Bool.not_eq_true', Bool.not_eq_false', decide_eq_true_eq, decide_eq_false_iff_not, beq_iff_eq, bne_iff_ne, List.length_map, List.length_take] at hc2; omega))) ?_
      refine sq_plain rfl rfl rfl (w_move rfl (ev_tmp rfl)) ?_
      refine sq_nil ?_
      refine round_end i (i + 1) ?_ ?_ (le_drop 1 ⟨rfl, rfl, rfl, rfl, trivial⟩)
      · exact ⟨by omega, by rw [hinv.2, drop_some hx, List.all_cons]; simp_all⟩
      · omega
  · intro h8
    have k8 := of_decide_eq_false h8; try simp only [List.length_map] at k8
    have hge : l.length ≤ i := by omega
    have hall : l.all l5Op = true := by (rw [hinv.2, List.drop_eq_nil_of_le hge]; rfl)
    refine awp_exit ?_
    refine awp_seq ?_
    refine awp_region ?_
    refine sq_plain rfl rfl rfl (w_move rfl (ev_tmp rfl)) ?_
    refine sq_plain rfl rfl rfl (w_llen rfl Tryz.underlying24 (ev_tmp rfl)) ?_
    refine sq_plain rfl rfl rfl (w_leq rfl (ev_tmp rfl) ev_ci) ?_
    refine sq_plain rfl rfl rfl (w_assign rfl (ev_tmp rfl)) ?_
    refine sq_nil ?_
    refine awp_ret ?_
    exact retR rfl (rv_tmp' rfl (by first | rfl | exact congrArg AV.bool (by unfold l5Good; rw [hall]; simp)))
theorem l5OpsText_spec (l : List TOp) (hg : goodOps l = true) : FSpec Tryz.prog 40 [AV.list 4 (l.map TOp.cs)] (AV.str (opsB l)) := by
  have hl8 := goodOps_len hg
  have hlb := opsB_len hg
  refine spec_of_awp Tryz.func40 rfl Tryz.ntmps40 rfl ?_
  refine awp_seq ?_
  refine awp_region ?_
  refine sq_plain rfl rfl rfl (w_assign rfl (ev_cs' (l := []) rfl)) ?_
  refine sq_nil ?_
  refine awp_seq ?_
  refine awp_region ?_
  refine sq_plain rfl rfl rfl (w_assign rfl (ev_cs' (l := []) rfl)) ?_
  refine sq_nil ?_
  refine awp_seq ?_
  refine awp_seq ?_
  refine awp_region ?_
  refine sq_plain rfl rfl rfl (w_move rfl (ev_tmp rfl)) ?_
  refine sq_plain rfl rfl rfl (w_llen rfl Tryz.underlying24 (ev_tmp rfl)) ?_
  refine sq_plain rfl rfl rfl (w_move rfl ev_ci) ?_
  refine sq_nil ?_
  refine awp_block ?_
  refine awp_loop_i [(2, _), (6, _), (7, _)] _ (fun (i : Nat) => i ≤ l.length ∧ (opsB (l.take i)).length ≤ 416) (fun (i : Nat) => []) (fun (i : Nat) => [(3, AV.str (opsB (l.take i))), (8, AV.int i)]) (fun (i : Nat) => l.length - i) (0) ?_ (le_env ⟨rfl, rfl, rfl, rfl, rfl, trivial⟩) ?_
  · exact ⟨Nat.zero_le _, by simp [opsB, joinW]⟩
  intro i hinv
  refine awp_seq ?_
  refine awp_region ?_
  refine sq_plain rfl rfl rfl (w_lss rfl (ev_tmp rfl) (ev_tmp rfl)) ?_
  refine sq_nil ?_
  refine awp_seq ?_
  refine awp_cond (ev_tmp rfl) ?_ ?_
  · intro h9
    have k9 := of_decide_eq_true h9; try simp only [List.length_map] at k9
    have hlt : i < l.length := by omega
    obtain ⟨x, hx⟩ := get_some hlt
    have hxg := goodOps_is hg x (List.mem_of_getElem? hx)
    have hxo := goodO hxg
    have hkn := hxo.kind
    have hw4 := word_len hxo.kind
    have hkv := isOp_lens hxg
    have hi5 := itoa_len5 hxo.by'
    have hby := hxo.by'
    refine awp_skip ?_
    refine awp_seq ?_
    refine awp_block ?_
    refine awp_seq ?_
    refine awp_region ?_
    refine sq_plain rfl rfl rfl (w_move rfl (ev_tmp rfl)) ?_
    refine sq_plain rfl rfl rfl (w_idxm rfl Tryz.underlying24 Tryz.sizeOf55 (ev_tmp rfl) (ev_tmp rfl) hx (by first | omega | ((try simp only [List.length_map, List.length_take, List.length_cons, List.length_nil, chunks_len, szR] at *); omega) | (have hc2 := hc; simp only [Bool.and_eq_true, Bool.or_eq_true, Bool.or_eq_false_iff, Bool.and_eq_false_iff, Bool.not_eq_true', Bool.not_eq_false', decide_eq_true_eq, decide_eq_false_iff_not, beq_iff_eq, bne_iff_ne, List.length_map, List.length_take] at hc2; omega))) ?_
    refine sq_plain rfl rfl rfl (w_loadE rfl (ev_tmp rfl) Tryz.isAgg55 Tryz.sizeOf55) ?_
    refine sq_alloc rfl rfl rfl rfl Tryz.zeroValue55 rfl ?_
    intro b5
    refine sq_plain rfl rfl rfl (w_assign rfl (ev_tmp rfl)) ?_
    refine sq_storeB0 0 rfl rfl rfl (ev_tmp rfl) (ev_tmp rfl) (as_agg _) rfl Tryz.sizeOf55 rfl ?_
    refine sq_nil ?_
    refine awp_seq ?_
    refine awp_seq ?_
    refine awp_region ?_
    refine sq_plain rfl rfl rfl (w_move rfl (ev_tmp rfl)) ?_
    refine sq_plain rfl rfl rfl (w_gtr rfl (ev_tmp rfl) ev_ci) ?_
    refine sq_nil ?_
    refine awp_cond (ev_tmp rfl) ?_ ?_
    · intro h14
      have k14 := of_decide_eq_true h14; try simp only [List.length_map] at k14
      refine awp_region ?_
      refine sq_plain rfl rfl rfl (w_move rfl (ev_tmp rfl)) ?_
      refine sq_plain rfl rfl rfl (w_cat rfl (ev_tmp rfl) (ev_cs' (l := [59, 32]) rfl) (by first | omega | (simp only [List.length_append, List.length_take, List.length_drop, List.length_cons, List.length_nil]; omega))) ?_
      refine sq_plain rfl rfl rfl (w_assign rfl (ev_tmp rfl)) ?_
      refine sq_nil ?_
      refine awp_seq ?_
      refine awp_region_any (by kernel_rfl) (by kernel_rfl) rfl ?_
      refine ch_plain rfl rfl (w_move rfl (ev_tmp rfl)) ?_
      refine ch_plain rfl rfl (w_call rfl Tryz.call99 rfl (l5Words_spec) evl_nil) ?_
      refine ch_plain rfl rfl (w_fldBn 0 rfl Tryz.underlying55 rfl Tryz.sizeOf3 (ev_tmp rfl) rfl) ?_
      refine ch_plain rfl rfl (w_loadB1 0 rfl (ev_tmp rfl) rfl Tryz.isAgg3 rfl) ?_
      refine ch_plain rfl rfl (w_idx rfl Tryz.underlying34 Tryz.sizeOf9 (ev_tmp rfl) (ev_tmp rfl) (by omega) (word_get hxo.kind)) ?_
      refine ch_plain rfl rfl (w_loadE1 rfl (ev_tmp rfl) Tryz.isAgg9 rfl) ?_
      refine ch_plain rfl rfl (w_cat rfl (ev_tmp rfl) (ev_cs' (l := [32]) rfl) (by first | omega | (simp only [List.length_append, List.length_take, List.length_drop, List.length_cons, List.length_nil]; omega))) ?_
      refine ch_plain rfl rfl (w_fldBn 1 rfl Tryz.underlying55 rfl Tryz.sizeOf9 (ev_tmp rfl) rfl) ?_
      refine ch_plain rfl rfl (w_loadB1 0 rfl (ev_tmp rfl) rfl Tryz.isAgg9 rfl) ?_
      refine ch_plain rfl rfl (w_cat rfl (ev_tmp rfl) (ev_tmp rfl) (by first | omega | (simp only [List.length_append, List.length_take, List.length_drop, List.length_cons, List.length_nil]; omega))) ?_
      refine ch_plain rfl rfl (w_cat rfl (ev_tmp rfl) (ev_tmp rfl) (by first | omega | (simp only [List.length_append, List.length_take, List.length_drop, List.length_cons, List.length_nil]; omega))) ?_
      refine ch_plain rfl rfl (w_assign rfl (ev_tmp rfl)) ?_
      refine ch_nil ?_
      refine awp_seq ?_
      refine awp_region ?_
      refine sq_plain rfl rfl rfl (w_fldBn 0 rfl Tryz.underlying55 rfl Tryz.sizeOf3 (ev_tmp rfl) rfl) ?_
      refine sq_plain rfl rfl rfl (w_loadB1 0 rfl (ev_tmp rfl) rfl Tryz.isAgg3 rfl) ?_
      refine sq_nil ?_
      refine awp_block ?_
      refine awp_seq ?_
      refine awp_seq ?_
      refine awp_region ?_
      refine sq_plain rfl rfl rfl (w_eql rfl (ev_tmp rfl) ev_ci) ?_
      refine sq_plain rfl rfl rfl (w_assign rfl (ev_tmp rfl)) ?_
      refine sq_nil ?_
      refine awp_cond (ev_tmp rfl) ?_ ?_
      · intro h30
        have k30 := eq_of_beqt h30; try simp only [List.length_map] at k30
        refine awp_skip ?_
        refine awp_cond (ev_tmp rfl) ?_ ?_
        · intro h30
          have k30 := eq_of_beqt h30; try simp only [List.length_map] at k30
          refine awp_region ?_
          refine sq_plain rfl rfl rfl (w_move rfl (ev_tmp rfl)) ?_
          refine sq_plain rfl rfl rfl (w_fldBn 2 rfl Tryz.underlying55 rfl Tryz.sizeOf9 (ev_tmp rfl) rfl) ?_
          refine sq_plain rfl rfl rfl (w_loadB1 0 rfl (ev_tmp rfl) rfl Tryz.isAgg9 rfl) ?_
          refine sq_plain rfl rfl rfl (w_cat rfl (ev_cs' (l := [32]) rfl) (ev_tmp rfl) (by first | omega | (simp only [List.length_append, List.length_take, List.length_drop, List.length_cons, List.length_nil]; omega))) ?_
          refine sq_plain rfl rfl rfl (w_cat rfl (ev_tmp rfl) (ev_tmp rfl) (by first | omega | (simp only [List.length_append, List.length_take, List.length_drop, List.length_cons, List.length_nil]; omega))) ?_
          refine sq_plain rfl rfl rfl (w_assign rfl (ev_tmp rfl)) ?_
          refine sq_nil ?_
          refine awp_region ?_
          refine sq_plain rfl rfl rfl (w_addi rfl (ev_tmp rfl) ev_ci (by first | omega | ((try simp only [List.length_map, List.length_take, List.length_cons, List.length_nil, chunks_len, szR] at *); omega) | (have hc2 := hc; simp only [Bool.and_eq_true, Bool.or_eq_true, Bool.or_eq_false_iff, Bool.and_eq_false_iff, Bool.not_eq_true', Bool.not_eq_false', decide_eq_true_eq, decide_eq_false_iff_not, beq_iff_eq, bne_iff_ne, List.length_map, List.length_take] at hc2; omega))) ?_
          refine sq_plain rfl rfl rfl (w_move rfl (ev_tmp rfl)) ?_
          refine sq_nil ?_
          refine round_end i (i + 1) ?_ ?_ (le_drop 1 ⟨congrArg (fun z => some (AV.str z)) (by first | (exfalso; omega) | (rw [ops_next hx]; (first | rw [if_pos (show 0 < i by omega)] | rw [if_neg (show ¬ 0 < i by omega)]); simp [opB, opVal, opHd, hasValK, hasByK, *]; done)), rfl, rfl, rfl, rfl, trivial⟩)
          · exact ⟨by omega, opsB_take hg (i + 1)⟩
          · omega
        · intro h30
          have k30 := ne_of_beqf h30; try simp only [List.length_map] at k30
          refine awp_seq ?_
          refine awp_seq ?_
          refine awp_region ?_
          refine sq_plain rfl rfl rfl (w_eql rfl (ev_tmp rfl) ev_ci) ?_
          refine sq_plain rfl rfl rfl (w_assign rfl (ev_tmp rfl)) ?_
          refine sq_nil ?_
          refine awp_cond (ev_tmp rfl) ?_ ?_
          · intro h38
            have k38 := eq_of_beqt h38; try simp only [List.length_map] at k38
            refine awp_skip ?_
            refine awp_cond (ev_tmp rfl) ?_ ?_
            · intro h38
              have k38 := eq_of_beqt h38; try simp only [List.length_map] at k38
              refine awp_region ?_
              refine sq_plain rfl rfl rfl (w_move rfl (ev_tmp rfl)) ?_
              refine sq_plain rfl rfl rfl (w_fldBn 3 rfl Tryz.underlying55 rfl Tryz.sizeOf3 (ev_tmp rfl) rfl) ?_
              refine sq_plain rfl rfl rfl (w_loadB1 0 rfl (ev_tmp rfl) rfl Tryz.isAgg3 rfl) ?_
              refine sq_plain rfl rfl rfl (w_call rfl Tryz.call100 rfl (l5Text_spec _ (by omega)) (evl_cons (ev_tmp rfl) evl_nil)) ?_
              refine sq_plain rfl rfl rfl (w_cat rfl (ev_cs' (l := [32]) rfl) (ev_tmp rfl) (by first | omega | (simp only [List.length_append, List.length_take, List.length_drop, List.length_cons, List.length_nil]; omega))) ?_
              refine sq_plain rfl rfl rfl (w_cat rfl (ev_tmp rfl) (ev_tmp rfl) (by first | omega | (simp only [List.length_append, List.length_take, List.length_drop, List.length_cons, List.length_nil]; omega))) ?_
              refine sq_plain rfl rfl rfl (w_assign rfl (ev_tmp rfl)) ?_
              refine sq_nil ?_
              refine awp_region ?_
              refine sq_plain rfl rfl rfl (w_addi rfl (ev_tmp rfl) ev_ci (by first | omega | ((try simp only [List.length_map, List.length_take, List.length_cons, List.length_nil, chunks_len, szR] at *); omega) | (have hc2 := hc; simp only [Bool.and_eq_true, Bool.or_eq_true, Bool.or_eq_false_iff, Bool.and_eq_false_iff, Bool.not_eq_true', Bool.not_eq_false', decide_eq_true_eq, decide_eq_false_iff_not, beq_iff_eq, bne_iff_ne, List.length_map, List.length_take] at hc2; omega))) ?_
              refine sq_plain rfl rfl rfl (w_move rfl (ev_tmp rfl)) ?_
              refine sq_nil ?_
              refine round_end i (i + 1) ?_ ?_ (le_drop 1 ⟨congrArg (fun z => some (AV.str z)) (by first | (exfalso; omega) | (rw [ops_next hx]; (first | rw [if_pos (show 0 < i by omega)] | rw [if_neg (show ¬ 0 < i by omega)]); simp [opB, opVal, opHd, hasValK, hasByK, *]; done)), rfl, rfl, rfl, rfl, trivial⟩)
              · exact ⟨by omega, opsB_take hg (i + 1)⟩
              · omega
            · intro h38
              have k38 := ne_of_beqf h38; try simp only [List.length_map] at k38
              refine awp_skip ?_
              refine awp_region ?_
              refine sq_plain rfl rfl rfl (w_addi rfl (ev_tmp rfl) ev_ci (by first | omega | ((try simp only [List.length_map, List.length_take, List.length_cons, List.length_nil, chunks_len, szR] at *); omega) | (have hc2 := hc; simp only [Bool.and_eq_true, Bool.or_eq_true, Bool.or_eq_false_iff, Bool.and_eq_false_iff, Bool.not_eq_true', Bool.not_eq_false', decide_eq_true_eq, decide_eq_false_iff_not, beq_iff_eq, bne_iff_ne, List.length_map, List.length_take] at hc2; omega))) ?_
              refine sq_plain rfl rfl rfl (w_move rfl (ev_tmp rfl)) ?_
              refine sq_nil ?_
              refine round_end i (i + 1) ?_ ?_ (le_drop 1 ⟨congrArg (fun z => some (AV.str z)) (by first | (exfalso; omega) | (rw [ops_next hx]; (first | rw [if_pos (show 0 < i by omega)] | rw [if_neg (show ¬ 0 < i by omega)]); simp [opB, opVal, opHd, hasValK, hasByK, *]; done)), rfl, rfl, rfl, rfl, trivial⟩)
              · exact ⟨by omega, opsB_take hg (i + 1)⟩
              · omega
          · intro h38
            have k38 := ne_of_beqf h38; try simp only [List.length_map] at k38
            refine awp_region ?_
            refine sq_plain rfl rfl rfl (w_eql rfl (ev_tmp rfl) ev_ci) ?_
            refine sq_plain rfl rfl rfl (w_assign rfl (ev_tmp rfl)) ?_
            refine sq_nil ?_
            refine awp_cond (ev_tmp rfl) ?_ ?_
            · intro h38
              have k38 := eq_of_beqt h38; try simp only [List.length_map] at k38
              refine awp_region ?_
              refine sq_plain rfl rfl rfl (w_move rfl (ev_tmp rfl)) ?_
              refine sq_plain rfl rfl rfl (w_fldBn 3 rfl Tryz.underlying55 rfl Tryz.sizeOf3 (ev_tmp rfl) rfl) ?_
              refine sq_plain rfl rfl rfl (w_loadB1 0 rfl (ev_tmp rfl) rfl Tryz.isAgg3 rfl) ?_
              refine sq_plain rfl rfl rfl (w_call rfl Tryz.call100 rfl (l5Text_spec _ (by omega)) (evl_cons (ev_tmp rfl) evl_nil)) ?_
              refine sq_plain rfl rfl rfl (w_cat rfl (ev_cs' (l := [32]) rfl) (ev_tmp rfl) (by first | omega | (simp only [List.length_append, List.length_take, List.length_drop, List.length_cons, List.length_nil]; omega))) ?_
              refine sq_plain rfl rfl rfl (w_cat rfl (ev_tmp rfl) (ev_tmp rfl) (by first | omega | (simp only [List.length_append, List.length_take, List.length_drop, List.length_cons, List.length_nil]; omega))) ?_
              refine sq_plain rfl rfl rfl (w_assign rfl (ev_tmp rfl)) ?_
              refine sq_nil ?_
              refine awp_region ?_
              refine sq_plain rfl rfl rfl (w_addi rfl (ev_tmp rfl) ev_ci (by first | omega | ((try simp only [List.length_map, List.length_take, List.length_cons, List.length_nil, chunks_len, szR] at *); omega) | (have hc2 := hc; simp only [Bool.and_eq_true, Bool.or_eq_true, Bool.or_eq_false_iff, Bool.and_eq_false_iff, Bool.not_eq_true', Bool.not_eq_false', decide_eq_true_eq, decide_eq_false_iff_not, beq_iff_eq, bne_iff_ne, List.length_map, List.length_take] at hc2; omega))) ?_
              refine sq_plain rfl rfl rfl (w_move rfl (ev_tmp rfl)) ?_
              refine sq_nil ?_
              refine round_end i (i + 1) ?_ ?_ (le_drop 1 ⟨congrArg (fun z => some (AV.str z)) (by first | (exfalso; omega) | (rw [ops_next hx]; (first | rw [if_pos (show 0 < i by omega)] | rw [if_neg (show ¬ 0 < i by omega)]); simp [opB, opVal, opHd, hasValK, hasByK, *]; done)), rfl, rfl, rfl, rfl, trivial⟩)
              · exact ⟨by omega, opsB_take hg (i + 1)⟩
              · omega
            · intro h38
              have k38 := ne_of_beqf h38; try simp only [List.length_map] at k38
              refine awp_skip ?_
              refine awp_region ?_
              refine sq_plain rfl rfl rfl (w_addi rfl (ev_tmp rfl) ev_ci (by first | omega | ((try simp only [List.length_map, List.length_take, List.length_cons, List.length_nil, chunks_len, szR] at *); omega) | (have hc2 := hc; simp only [Bool.and_eq_true, Bool.or_eq_true, Bool.or_eq_false_iff, Bool.and_eq_false_iff, Bool.not_eq_true', Bool.not_eq_false', decide_eq_true_eq, decide_eq_false_iff_not, beq_iff_eq, bne_iff_ne, List.length_map, List.length_take] at hc2; omega))) ?_
              refine sq_plain rfl rfl rfl (w_move rfl (ev_tmp rfl)) ?_
              refine sq_nil ?_
              refine round_end i (i + 1) ?_ ?_ (le_drop 1 ⟨congrArg (fun z => some (AV.str z)) (by first | (exfalso; omega) | (rw [ops_next hx]; (first | rw [if_pos (show 0 < i by omega)] | rw [if_neg (show ¬ 0 < i by omega)]); simp [opB, opVal, opHd, hasValK, hasByK, *]; done)), rfl, rfl, rfl, rfl, trivial⟩)
              · exact ⟨by omega, opsB_take hg (i + 1)⟩
              · omega
      · intro h30
        have k30 := ne_of_beqf h30; try simp only [List.length_map] at k30
        refine awp_region ?_
        refine sq_plain rfl rfl rfl (w_eql rfl (ev_tmp rfl) ev_ci) ?_
        refine sq_plain rfl rfl rfl (w_assign rfl (ev_tmp rfl)) ?_
        refine sq_nil ?_
        refine awp_cond (ev_tmp rfl) ?_ ?_
        · intro h30
          have k30 := eq_of_beqt h30; try simp only [List.length_map] at k30
          refine awp_region ?_
          refine sq_plain rfl rfl rfl (w_move rfl (ev_tmp rfl)) ?_
          refine sq_plain rfl rfl rfl (w_fldBn 2 rfl Tryz.underlying55 rfl Tryz.sizeOf9 (ev_tmp rfl) rfl) ?_
          refine sq_plain rfl rfl rfl (w_loadB1 0 rfl (ev_tmp rfl) rfl Tryz.isAgg9 rfl) ?_
          refine sq_plain rfl rfl rfl (w_cat rfl (ev_cs' (l := [32]) rfl) (ev_tmp rfl) (by first | omega | (simp only [List.length_append, List.length_take, List.length_drop, List.length_cons, List.length_nil]; omega))) ?_
          refine sq_plain rfl rfl rfl (w_cat rfl (ev_tmp rfl) (ev_tmp rfl) (by first | omega | (simp only [List.length_append, List.length_take, List.length_drop, List.length_cons, List.length_nil]; omega))) ?_
          refine sq_plain rfl rfl rfl (w_assign rfl (ev_tmp rfl)) ?_
          refine sq_nil ?_
          refine awp_region ?_
          refine sq_plain rfl rfl rfl (w_addi rfl (ev_tmp rfl) ev_ci (by first | omega | ((try simp only [List.length_map, List.length_take, List.length_cons, List.length_nil, chunks_len, szR] at *); omega) | (have hc2 := hc; simp only [Bool.and_eq_true, Bool.or_eq_true, Bool.or_eq_false_iff, Bool.and_eq_false_iff, Bool.not_eq_true', Bool.not_eq_false', decide_eq_true_eq, decide_eq_false_iff_not, beq_iff_eq, bne_iff_ne, List.length_map, List.length_take] at hc2; omega))) ?_
          refine sq_plain rfl rfl rfl (w_move rfl (ev_tmp rfl)) ?_
          refine sq_nil ?_
          refine round_end i (i + 1) ?_ ?_ (le_drop 1 ⟨congrArg (fun z => some (AV.str z)) (by first | (exfalso; omega) | (rw [ops_next hx]; (first | rw [if_pos (show 0 < i by omega)] | rw [if_neg (show ¬ 0 < i by omega)]); simp [opB, opVal, opHd, hasValK, hasByK, *]; done)), rfl, rfl, rfl, rfl, trivial⟩)
          · exact ⟨by omega, opsB_take hg (i + 1)⟩
          · omega
        · intro h30
          have k30 := ne_of_beqf h30; try simp only [List.length_map] at k30
          refine awp_seq ?_
          refine awp_seq ?_
          refine awp_region ?_
          refine sq_plain rfl rfl rfl (w_eql rfl (ev_tmp rfl) ev_ci) ?_
          refine sq_plain rfl rfl rfl (w_assign rfl (ev_tmp rfl)) ?_
          refine sq_nil ?_
          refine awp_cond (ev_tmp rfl) ?_ ?_
          · intro h38
            have k38 := eq_of_beqt h38; try simp only [List.length_map] at k38
            refine awp_skip ?_
            refine awp_cond (ev_tmp rfl) ?_ ?_
            · intro h38
              have k38 := eq_of_beqt h38; try simp only [List.length_map] at k38
              refine awp_region ?_
              refine sq_plain rfl rfl rfl (w_move rfl (ev_tmp rfl)) ?_
              refine sq_plain rfl rfl rfl (w_fldBn 3 rfl Tryz.underlying55 rfl Tryz.sizeOf3 (ev_tmp rfl) rfl) ?_
              refine sq_plain rfl rfl rfl (w_loadB1 0 rfl (ev_tmp rfl) rfl Tryz.isAgg3 rfl) ?_
              refine sq_plain rfl rfl rfl (w_call rfl Tryz.call100 rfl (l5Text_spec _ (by omega)) (evl_cons (ev_tmp rfl) evl_nil)) ?_
              refine sq_plain rfl rfl rfl (w_cat rfl (ev_cs' (l := [32]) rfl) (ev_tmp rfl) (by first | omega | (simp only [List.length_append, List.length_take, List.length_drop, List.length_cons, List.length_nil]; omega))) ?_
              refine sq_plain rfl rfl rfl (w_cat rfl (ev_tmp rfl) (ev_tmp rfl) (by first | omega | (simp only [List.length_append, List.length_take, List.length_drop, List.length_cons, List.length_nil]; omega))) ?_
              refine sq_plain rfl rfl rfl (w_assign rfl (ev_tmp rfl)) ?_
              refine sq_nil ?_
              refine awp_region ?_
              refine sq_plain rfl rfl rfl (w_addi rfl (ev_tmp rfl) ev_ci (by first | omega | ((try simp only [List.length_map, List.length_take, List.length_cons, List.length_nil, chunks_len, szR] at *); omega) | (have hc2 := hc; simp only [Bool.and_eq_true, Bool.or_eq_true, Bool.or_eq_false_iff, Bool.and_eq_false_iff, Bool.not_eq_true', Bool.not_eq_false', decide_eq_true_eq, decide_eq_false_iff_not, beq_iff_eq, bne_iff_ne, List.length_map, List.length_take] at hc2; omega))) ?_
              refine sq_plain rfl rfl rfl (w_move rfl (ev_tmp rfl)) ?_
              refine sq_nil ?_
              refine round_end i (i + 1) ?_ ?_ (le_drop 1 ⟨congrArg (fun z => some (AV.str z)) (by first | (exfalso; omega) | (rw [ops_next hx]; (first | rw [if_pos (show 0 < i by omega)] | rw [if_neg (show ¬ 0 < i by omega)]); simp [opB, opVal, opHd, hasValK, hasByK, *]; done)), rfl, rfl, rfl, rfl, trivial⟩)
              · exact ⟨by omega, opsB_take hg (i + 1)⟩
              · omega
            · intro h38
              have k38 := ne_of_beqf h38; try simp only [List.length_map] at k38
              refine awp_skip ?_
              refine awp_region ?_
              refine sq_plain rfl rfl rfl (w_addi rfl (ev_tmp rfl) ev_ci (by first | omega | ((try simp only [List.length_map, List.length_take, List.length_cons, List.length_nil, chunks_len, szR] at *); omega) | (have hc2 := hc; simp only [Bool.and_eq_true, Bool.or_eq_true, Bool.or_eq_false_iff, Bool.and_eq_false_iff, Bool.not_eq_true', Bool.not_eq_false', decide_eq_true_eq, decide_eq_false_iff_not, beq_iff_eq, bne_iff_ne, List.length_map, List.length_take] at hc2; omega))) ?_
              refine sq_plain rfl rfl rfl (w_move rfl (ev_tmp rfl)) ?_
              refine sq_nil ?_
              refine round_end i (i + 1) ?_ ?_ (le_drop 1 ⟨congrArg (fun z => some (AV.str z)) (by first | (exfalso; omega) | (rw [ops_next hx]; (first | rw [if_pos (show 0 < i by omega)] | rw [if_neg (show ¬ 0 < i by omega)]); simp [opB, opVal, opHd, hasValK, hasByK, *]; done)), rfl, rfl, rfl, rfl, trivial⟩)
              · exact ⟨by omega, opsB_take hg (i + 1)⟩
              · omega
          · intro h38
            have k38 := ne_of_beqf h38; try simp only [List.length_map] at k38
            refine awp_region ?_
            refine sq_plain rfl rfl rfl (w_eql rfl (ev_tmp rfl) ev_ci) ?_
            refine sq_plain rfl rfl rfl (w_assign rfl (ev_tmp rfl)) ?_
            refine sq_nil ?_
            refine awp_cond (ev_tmp rfl) ?_ ?_
            · intro h38
              have k38 := eq_of_beqt h38; try simp only [List.length_map] at k38
              refine awp_region ?_
              refine sq_plain rfl rfl rfl (w_move rfl (ev_tmp rfl)) ?_
              refine sq_plain rfl rfl rfl (w_fldBn 3 rfl Tryz.underlying55 rfl Tryz.sizeOf3 (ev_tmp rfl) rfl) ?_
              refine sq_plain rfl rfl rfl (w_loadB1 0 rfl (ev_tmp rfl) rfl Tryz.isAgg3 rfl) ?_
              refine sq_plain rfl rfl rfl (w_call rfl Tryz.call100 rfl (l5Text_spec _ (by omega)) (evl_cons (ev_tmp rfl) evl_nil)) ?_
              refine sq_plain rfl rfl rfl (w_cat rfl (ev_cs' (l := [32]) rfl) (ev_tmp rfl) (by first | omega | (simp only [List.length_append, List.length_take, List.length_drop, List.length_cons, List.length_nil]; omega))) ?_
              refine sq_plain rfl rfl rfl (w_cat rfl (ev_tmp rfl) (ev_tmp rfl) (by first | omega | (simp only [List.length_append, List.length_take, List.length_drop, List.length_cons, List.length_nil]; omega))) ?_
              refine sq_plain rfl rfl rfl (w_assign rfl (ev_tmp rfl)) ?_
              refine sq_nil ?_
              refine awp_region ?_
              refine sq_plain rfl rfl rfl (w_addi rfl (ev_tmp rfl) ev_ci (by first | omega | ((try simp only [List.length_map, List.length_take, List.length_cons, List.length_nil, chunks_len, szR] at *); omega) | (have hc2 := hc; simp only [Bool.and_eq_true, Bool.or_eq_true, Bool.or_eq_false_iff, Bool.and_eq_false_iff, Bool.not_eq_true', Bool.not_eq_false', decide_eq_true_eq, decide_eq_false_iff_not, beq_iff_eq, bne_iff_ne, List.length_map, List.length_take] at hc2; omega))) ?_
              refine sq_plain rfl rfl rfl (w_move rfl (ev_tmp rfl)) ?_
              refine sq_nil ?_
              refine round_end i (i + 1) ?_ ?_ (le_drop 1 ⟨congrArg (fun z => some (AV.str z)) (by first | (exfalso; omega) | (rw [ops_next hx]; (first | rw [if_pos (show 0 < i by omega)] | rw [if_neg (show ¬ 0 < i by omega)]); simp [opB, opVal, opHd, hasValK, hasByK, *]; done)), rfl, rfl, rfl, rfl, trivial⟩)
              · exact ⟨by omega, opsB_take hg (i + 1)⟩
              · omega
            · intro h38
              have k38 := ne_of_beqf h38; try simp only [List.length_map] at k38
              refine awp_skip ?_
              refine awp_region ?_
              refine sq_plain rfl rfl rfl (w_addi rfl (ev_tmp rfl) ev_ci (by first | omega | ((try simp only [List.length_map, List.length_take, List.length_cons, List.length_nil, chunks_len, szR] at *); omega) | (have hc2 := hc; simp only [Bool.and_eq_true, Bool.or_eq_true, Bool.or_eq_false_iff, Bool.and_eq_false_iff, Bool.not_eq_true', Bool.not_eq_false', decide_eq_true_eq, decide_eq_false_iff_not, beq_iff_eq, bne_iff_ne, List.length_map, List.length_take] at hc2; omega))) ?_
              refine sq_plain rfl rfl rfl (w_move rfl (ev_tmp rfl)) ?_
              refine sq_nil ?_
              refine round_end i (i + 1) ?_ ?_ (le_drop 1 ⟨congrArg (fun z => some (AV.str z)) (by first | (exfalso; omega) | (rw [ops_next hx]; (first | rw [if_pos (show 0 < i by omega)] | rw [if_neg (show ¬ 0 < i by omega)]); simp [opB, opVal, opHd, hasValK, hasByK, *]; done)), rfl, rfl, rfl, rfl, trivial⟩)
              · exact ⟨by omega, opsB_take hg (i + 1)⟩
              · omega
    · intro h14
      have k14 := of_decide_eq_false h14; try simp only [List.length_map] at k14
      refine awp_skip ?_
      refine awp_seq ?_
      refine awp_region_any (by kernel_rfl) (by kernel_rfl) rfl ?_
      refine ch_plain rfl rfl (w_move rfl (ev_tmp rfl)) ?_
      refine ch_plain rfl rfl (w_call rfl Tryz.call99 rfl (l5Words_spec) evl_nil) ?_
      refine ch_plain rfl rfl (w_fldBn 0 rfl Tryz.underlying55 rfl Tryz.sizeOf3 (ev_tmp rfl) rfl) ?_
      refine ch_plain rfl rfl (w_loadB1 0 rfl (ev_tmp rfl) rfl Tryz.isAgg3 rfl) ?_
      refine ch_plain rfl rfl (w_idx rfl Tryz.underlying34 Tryz.sizeOf9 (ev_tmp rfl) (ev_tmp rfl) (by omega) (word_get hxo.kind)) ?_
      refine ch_plain rfl rfl (w_loadE1 rfl (ev_tmp rfl) Tryz.isAgg9 rfl) ?_
      refine ch_plain rfl rfl (w_cat rfl (ev_tmp rfl) (ev_cs' (l := [32]) rfl) (by first | omega | (simp only [List.length_append, List.length_take, List.length_drop, List.length_cons, List.length_nil]; omega))) ?_
      refine ch_plain rfl rfl (w_fldBn 1 rfl Tryz.underlying55 rfl Tryz.sizeOf9 (ev_tmp rfl) rfl) ?_
      refine ch_plain rfl rfl (w_loadB1 0 rfl (ev_tmp rfl) rfl Tryz.isAgg9 rfl) ?_
      refine ch_plain rfl rfl (w_cat rfl (ev_tmp rfl) (ev_tmp rfl) (by first | omega | (simp only [List.length_append, List.length_take, List.length_drop, List.length_cons, List.length_nil]; omega))) ?_
      refine ch_plain rfl rfl (w_cat rfl (ev_tmp rfl) (ev_tmp rfl) (by first | omega | (simp only [List.length_append, List.length_take, List.length_drop, List.length_cons, List.length_nil]; omega))) ?_
      refine ch_plain rfl rfl (w_assign rfl (ev_tmp rfl)) ?_
      refine ch_nil ?_
      refine awp_seq ?_
      refine awp_region ?_
      refine sq_plain rfl rfl rfl (w_fldBn 0 rfl Tryz.underlying55 rfl Tryz.sizeOf3 (ev_tmp rfl) rfl) ?_
      refine sq_plain rfl rfl rfl (w_loadB1 0 rfl (ev_tmp rfl) rfl Tryz.isAgg3 rfl) ?_
      refine sq_nil ?_
      refine awp_block ?_
      refine awp_seq ?_
      refine awp_seq ?_
      refine awp_region ?_
      refine sq_plain rfl rfl rfl (w_eql rfl (ev_tmp rfl) ev_ci) ?_
      refine sq_plain rfl rfl rfl (w_assign rfl (ev_tmp rfl)) ?_
      refine sq_nil ?_
      refine awp_cond (ev_tmp rfl) ?_ ?_
      · intro h30
        have k30 := eq_of_beqt h30; try simp only [List.length_map] at k30
        refine awp_skip ?_
        refine awp_cond (ev_tmp rfl) ?_ ?_
        · intro h30
          have k30 := eq_of_beqt h30; try simp only [List.length_map] at k30
          refine awp_region ?_
          refine sq_plain rfl rfl rfl (w_move rfl (ev_tmp rfl)) ?_
          refine sq_plain rfl rfl rfl (w_fldBn 2 rfl Tryz.underlying55 rfl Tryz.sizeOf9 (ev_tmp rfl) rfl) ?_
          refine sq_plain rfl rfl rfl (w_loadB1 0 rfl (ev_tmp rfl) rfl Tryz.isAgg9 rfl) ?_
          refine sq_plain rfl rfl rfl (w_cat rfl (ev_cs' (l := [32]) rfl) (ev_tmp rfl) (by first | omega | (simp only [List.length_append, List.length_take, List.length_drop, List.length_cons, List.length_nil]; omega))) ?_
          refine sq_plain rfl rfl rfl (w_cat rfl (ev_tmp rfl) (ev_tmp rfl) (by first | omega | (simp only [List.length_append, List.length_take, List.length_drop, List.length_cons, List.length_nil]; omega))) ?_
          refine sq_plain rfl rfl rfl (w_assign rfl (ev_tmp rfl)) ?_
          refine sq_nil ?_
          refine awp_region ?_
          refine sq_plain rfl rfl rfl (w_addi rfl (ev_tmp rfl) ev_ci (by first | omega | ((try simp only [List.length_map, List.length_take, List.length_cons, List.length_nil, chunks_len, szR] at *); omega) | (have hc2 := hc; simp only [Bool.and_eq_true, Bool.or_eq_true, Bool.or_eq_false_iff, Bool.and_eq_false_iff, Bool.not_eq_true', Bool.not_eq_false', decide_eq_true_eq, decide_eq_false_iff_not, beq_iff_eq, bne_iff_ne, List.length_map, List.length_take] at hc2; omega))) ?_
          refine sq_plain rfl rfl rfl (w_move rfl (ev_tmp rfl)) ?_
          refine sq_nil ?_
          refine round_end i (i + 1) ?_ ?_ (le_drop 1 ⟨congrArg (fun z => some (AV.str z)) (by first | (exfalso; omega) | (rw [ops_next hx]; (first | rw [if_pos (show 0 < i by omega)] | rw [if_neg (show ¬ 0 < i by omega)]); simp [opB, opVal, opHd, hasValK, hasByK, *]; done)), rfl, rfl, rfl, rfl, trivial⟩)
          · exact ⟨by omega, opsB_take hg (i + 1)⟩
          · omega
        · intro h30
          have k30 := ne_of_beqf h30; try simp only [List.length_map] at k30
          refine awp_seq ?_
          refine awp_seq ?_
          refine awp_region ?_
          refine sq_plain rfl rfl rfl (w_eql rfl (ev_tmp rfl) ev_ci) ?_
          refine sq_plain rfl rfl rfl (w_assign rfl (ev_tmp rfl)) ?_
          refine sq_nil ?_
          refine awp_cond (ev_tmp rfl) ?_ ?_
          · intro h38
            have k38 := eq_of_beqt h38; try simp only [List.length_map] at k38
            refine awp_skip ?_
            refine awp_cond (ev_tmp rfl) ?_ ?_
            · intro h38
              have k38 := eq_of_beqt h38; try simp only [List.length_map] at k38
              refine awp_region ?_
              refine sq_plain rfl rfl rfl (w_move rfl (ev_tmp rfl)) ?_
              refine sq_plain rfl rfl rfl (w_fldBn 3 rfl Tryz.underlying55 rfl Tryz.sizeOf3 (ev_tmp rfl) rfl) ?_
              refine sq_plain rfl rfl rfl (w_loadB1 0 rfl (ev_tmp rfl) rfl Tryz.isAgg3 rfl) ?_
              refine sq_plain rfl rfl rfl (w_call rfl Tryz.call100 rfl (l5Text_spec _ (by omega)) (evl_cons (ev_tmp rfl) evl_nil)) ?_
              refine sq_plain rfl rfl rfl (w_cat rfl (ev_cs' (l := [32]) rfl) (ev_tmp rfl) (by first | omega | (simp only [List.length_append, List.length_take, List.length_drop, List.length_cons, List.length_nil]; omega))) ?_
              refine sq_plain rfl rfl rfl (w_cat rfl (ev_tmp rfl) (ev_tmp rfl) (by first | omega | (simp only [List.length_append, List.length_take, List.length_drop, List.length_cons, List.length_nil]; omega))) ?_
              refine sq_plain rfl rfl rfl (w_assign rfl (ev_tmp rfl)) ?_
              refine sq_nil ?_
              refine awp_region ?_
              refine sq_plain rfl rfl rfl (w_addi rfl (ev_tmp rfl) ev_ci (by first | omega | ((try simp only [List.length_map, List.length_take, List.length_cons, List.length_nil, chunks_len, szR] at *); omega) | (have hc2 := hc; simp only [Bool.and_eq_true, Bool.or_eq_true, Bool.or_eq_false_iff, Bool.and_eq_false_iff, Bool.not_eq_true', Bool.not_eq_false', decide_eq_true_eq, decide_eq_false_iff_not, beq_iff_eq, bne_iff_ne, List.length_map, List.length_take] at hc2; omega))) ?_
              refine sq_plain rfl rfl rfl (w_move rfl (ev_tmp rfl)) ?_
              refine sq_nil ?_
              refine round_end i (i + 1) ?_ ?_ (le_drop 1 ⟨congrArg (fun z => some (AV.str z)) (by first | (exfalso; omega) | (rw [ops_next hx]; (first | rw [if_pos (show 0 < i by omega)] | rw [if_neg (show ¬ 0 < i by omega)]); simp [opB, opVal, opHd, hasValK, hasByK, *]; done)), rfl, rfl, rfl, rfl, trivial⟩)
              · exact ⟨by omega, opsB_take hg (i + 1)⟩
              · omega
            · intro h38
              have k38 := ne_of_beqf h38; try simp only [List.length_map] at k38
              refine awp_skip ?_
              refine awp_region ?_
              refine sq_plain rfl rfl rfl (w_addi rfl (ev_tmp rfl) ev_ci (by first | omega | ((try simp only [List.length_map, List.length_take, List.length_cons, List.length_nil, chunks_len, szR] at *); omega) | (have hc2 := hc; simp only [Bool.and_eq_true, Bool.or_eq_true, Bool.or_eq_false_iff, Bool.and_eq_false_iff, Bool.not_eq_true', Bool.not_eq_false', decide_eq_true_eq, decide_eq_false_iff_not, beq_iff_eq, bne_iff_ne, List.length_map, List.length_take] at hc2; omega))) ?_
              refine sq_plain rfl rfl rfl (w_move rfl (ev_tmp rfl)) ?_
              refine sq_nil ?_
              refine round_end i (i + 1) ?_ ?_ (le_drop 1 ⟨congrArg (fun z => some (AV.str z)) (by first | (exfalso; omega) | (rw [ops_next hx]; (first | rw [if_pos (show 0 < i by omega)] | rw [if_neg (show ¬ 0 < i by omega)]); simp [opB, opVal, opHd, hasValK, hasByK, *]; done)), rfl, rfl, rfl, rfl, trivial⟩)
              · exact ⟨by omega, opsB_take hg (i + 1)⟩
              · omega
          · intro h38
            have k38 := ne_of_beqf h38; try simp only [List.length_map] at k38
            refine awp_region ?_
            refine sq_plain rfl rfl rfl (w_eql rfl (ev_tmp rfl) ev_ci) ?_
            refine sq_plain rfl rfl rfl (w_assign rfl (ev_tmp rfl)) ?_
            refine sq_nil ?_
            refine awp_cond (ev_tmp rfl) ?_ ?_
            · intro h38
              have k38 := eq_of_beqt h38; try simp only [List.length_map] at k38
              refine awp_region ?_
              refine sq_plain rfl rfl rfl (w_move rfl (ev_tmp rfl)) ?_
              refine sq_plain rfl rfl rfl (w_fldBn 3 rfl Tryz.underlying55 rfl Tryz.sizeOf3 (ev_tmp rfl) rfl) ?_
              refine sq_plain rfl rfl rfl (w_loadB1 0 rfl (ev_tmp rfl) rfl Tryz.isAgg3 rfl) ?_
              refine sq_plain rfl rfl rfl (w_call rfl Tryz.call100 rfl (l5Text_spec _ (by omega)) (evl_cons (ev_tmp rfl) evl_nil)) ?_
              refine sq_plain rfl rfl rfl (w_cat rfl (ev_cs' (l := [32]) rfl) (ev_tmp rfl) (by first | omega | (simp only [List.length_append, List.length_take, List.length_drop, List.length_cons, List.length_nil]; omega))) ?_
              refine sq_plain rfl rfl rfl (w_cat rfl (ev_tmp rfl) (ev_tmp rfl) (by first | omega | (simp only [List.length_append, List.length_take, List.length_drop, List.length_cons, List.length_nil]; omega))) ?_
              refine sq_plain rfl rfl rfl (w_assign rfl (ev_tmp rfl)) ?_
              refine sq_nil ?_
              refine awp_region ?_
              refine sq_plain rfl rfl rfl (w_addi rfl (ev_tmp rfl) ev_ci (by first | omega | ((try simp only [List.length_map, List.length_take, List.length_cons, List.length_nil, chunks_len, szR] at *); omega) | (have hc2 := hc; simp only [Bool.and_eq_true, Bool.or_eq_true, Bool.or_eq_false_iff, Bool.and_eq_false_iff, Bool.not_eq_true', Bool.not_eq_false', decide_eq_true_eq, decide_eq_false_iff_not, beq_iff_eq, bne_iff_ne, List.length_map, List.length_take] at hc2; omega))) ?_
              refine sq_plain rfl rfl rfl (w_move rfl (ev_tmp rfl)) ?_
              refine sq_nil ?_
              refine round_end i (i + 1) ?_ ?_ (le_drop 1 ⟨congrArg (fun z => some (AV.str z)) (by first | (exfalso; omega) | (rw [ops_next hx]; (first | rw [if_pos (show 0 < i by omega)] | rw [if_neg (show ¬ 0 < i by omega)]); simp [opB, opVal, opHd, hasValK, hasByK, *]; done)), rfl, rfl, rfl, rfl, trivial⟩)
              · exact ⟨by omega, opsB_take hg (i + 1)⟩
              · omega
            · intro h38
              have k38 := ne_of_beqf h38; try simp only [List.length_map] at k38
              refine awp_skip ?_
              refine awp_region ?_
              refine sq_plain rfl rfl rfl (w_addi rfl (ev_tmp rfl) ev_ci (by first | omega | ((try simp only [List.length_map, List.length_take, List.length_cons, List.length_nil, chunks_len, szR] at *); omega) | (have hc2 := hc; simp only [Bool.and_eq_true, Bool.or_eq_true, Bool.or_eq_false_iff, Bool.and_eq_false_iff, Bool.not_eq_true', Bool.not_eq_false', decide_eq_true_eq, decide_eq_false_iff_not, beq_iff_eq, bne_iff_ne, List.length_map, List.length_take] at hc2; omega))) ?_
              refine sq_plain rfl rfl rfl (w_move rfl (ev_tmp rfl)) ?_
              refine sq_nil ?_
              refine round_end i (i + 1) ?_ ?_ (le_drop 1 ⟨congrArg (fun z => some (AV.str z)) (by first | (exfalso; omega) | (rw [ops_next hx]; (first | rw [if_pos (show 0 < i by omega)] | rw [if_neg (show ¬ 0 < i by omega)]); simp [opB, opVal, opHd, hasValK, hasByK, *]; done)), rfl, rfl, rfl, rfl, trivial⟩)
              · exact ⟨by omega, opsB_take hg (i + 1)⟩
              · omega
      · intro h30
        have k30 := ne_of_beqf h30; try simp only [List.length_map] at k30
        refine awp_region ?_
        refine sq_plain rfl rfl rfl (w_eql rfl (ev_tmp rfl) ev_ci) ?_
        refine sq_plain rfl rfl rfl (w_assign rfl (ev_tmp rfl)) ?_
        refine sq_nil ?_
        refine awp_cond (ev_tmp rfl) ?_ ?_
        · intro h30
          have k30 := eq_of_beqt h30; try simp only [List.length_map] at k30
          refine awp_region ?_
          refine sq_plain rfl rfl rfl (w_move rfl (ev_tmp rfl)) ?_
          refine sq_plain rfl rfl rfl (w_fldBn 2 rfl Tryz.underlying55 rfl Tryz.sizeOf9 (ev_tmp rfl) rfl) ?_
          refine sq_plain rfl rfl rfl (w_loadB1 0 rfl (ev_tmp rfl) rfl Tryz.isAgg9 rfl) ?_
          refine sq_plain rfl rfl rfl (w_cat rfl (ev_cs' (l := [32]) rfl) (ev_tmp rfl) (by first | omega | (simp only [List.length_append, List.length_take, List.length_drop, List.length_cons, List.length_nil]; omega))) ?_
          refine sq_plain rfl rfl rfl (w_cat rfl (ev_tmp rfl) (ev_tmp rfl) (by first | omega | (simp only [List.length_append, List.length_take, List.length_drop, List.length_cons, List.length_nil]; omega))) ?_
          refine sq_plain rfl rfl rfl (w_assign rfl (ev_tmp rfl)) ?_
          refine sq_nil ?_
          refine awp_region ?_
          refine sq_plain rfl rfl rfl (w_addi rfl (ev_tmp rfl) ev_ci (by first | omega | ((try simp only [List.length_map, List.length_take, List.length_cons, List.length_nil, chunks_len, szR] at *); omega) | (have hc2 := hc; simp only [Bool.and_eq_true, Bool.or_eq_true, Bool.or_eq_false_iff, Bool.and_eq_false_iff, Bool.not_eq_true', Bool.not_eq_false', decide_eq_true_eq, decide_eq_false_iff_not, beq_iff_eq, bne_iff_ne, List.length_map, List.length_take] at hc2; omega))) ?_
          refine sq_plain rfl rfl rfl (w_move rfl (ev_tmp rfl)) ?_
          refine sq_nil ?_
          refine round_end i (i + 1) ?_ ?_ (le_drop 1 ⟨congrArg (fun z => some (AV.str z)) (by first | (exfalso; omega) | (rw [ops_next hx]; (first | rw [if_pos (show 0 < i by omega)] | rw [if_neg (show ¬ 0 < i by omega)]); simp [opB, opVal, opHd, hasValK, hasByK, *]; done)), rfl, rfl, rfl, rfl, trivial⟩)
          · exact ⟨by omega, opsB_take hg (i + 1)⟩
          · omega
        · intro h30
          have k30 := ne_of_beqf h30; try simp only [List.length_map] at k30
          refine awp_seq ?_
          refine awp_seq ?_
          refine awp_region ?_
          refine sq_plain rfl rfl rfl (w_eql rfl (ev_tmp rfl) ev_ci) ?_
          refine sq_plain rfl rfl rfl (w_assign rfl (ev_tmp rfl)) ?_
          refine sq_nil ?_
          refine awp_cond (ev_tmp rfl) ?_ ?_
          · intro h38
            have k38 := eq_of_beqt h38; try simp only [List.length_map] at k38
            refine awp_skip ?_
            refine awp_cond (ev_tmp rfl) ?_ ?_
            · intro h38
              have k38 := eq_of_beqt h38; try simp only [List.length_map] at k38
              refine awp_region ?_
              refine sq_plain rfl rfl rfl (w_move rfl (ev_tmp rfl)) ?_
              refine sq_plain rfl rfl rfl (w_fldBn 3 rfl Tryz.underlying55 rfl Tryz.sizeOf3 (ev_tmp rfl) rfl) ?_
              refine sq_plain rfl rfl rfl (w_loadB1 0 rfl (ev_tmp rfl) rfl Tryz.isAgg3 rfl) ?_
              refine sq_plain rfl rfl rfl (w_call rfl Tryz.call100 rfl (l5Text_spec _ (by omega)) (evl_cons (ev_tmp rfl) evl_nil)) ?_
              refine sq_plain rfl rfl rfl (w_cat rfl (ev_cs' (l := [32]) rfl) (ev_tmp rfl) (by first | omega | (simp only [List.length_append, List.length_take, List.length_drop, List.length_cons, List.length_nil]; omega))) ?_
              refine sq_plain rfl rfl rfl (w_cat rfl (ev_tmp rfl) (ev_tmp rfl) (by first | omega | (simp only [List.length_append, List.length_take, List.length_drop, List.length_cons, List.length_nil]; omega))) ?_
              refine sq_plain rfl rfl rfl (w_assign rfl (ev_tmp rfl)) ?_
              refine sq_nil ?_
              refine awp_region ?_
              refine sq_plain rfl rfl rfl (w_addi rfl (ev_tmp rfl) ev_ci (by first | omega | ((try simp only [List.length_map, List.length_take, List.length_cons, List.length_nil, chunks_len, szR] at *); omega) | (have hc2 := hc; simp only [Bool.and_eq_true, Bool.or_eq_true, Bool.or_eq_false_iff, Bool.and_eq_false_iff, Bool.not_eq_true', Bool.not_eq_false', decide_eq_true_eq, decide_eq_false_iff_not, beq_iff_eq, bne_iff_ne, List.length_map, List.length_take] at hc2; omega))) ?_
              refine sq_plain rfl rfl rfl (w_move rfl (ev_tmp rfl)) ?_
              refine sq_nil ?_
              refine round_end i (i + 1) ?_ ?_ (le_drop 1 ⟨congrArg (fun z => some (AV.str z)) (by first | (exfalso; omega) | (rw [ops_next hx]; (first | rw [if_pos (show 0 < i by omega)] | rw [if_neg (show ¬ 0 < i by omega)]); simp [opB, opVal, opHd, hasValK, hasByK, *]; done)), rfl, rfl, rfl, rfl, trivial⟩)
              · exact ⟨by omega, opsB_take hg (i + 1)⟩
              · omega
            · intro h38
              have k38 := ne_of_beqf h38; try simp only [List.length_map] at k38
              refine awp_skip ?_
              refine awp_region ?_
              refine sq_plain rfl rfl rfl (w_addi rfl (ev_tmp rfl) ev_ci (by first | omega | ((try simp only [List.length_map, List.length_take, List.length_cons, List.length_nil, chunks_len, szR] at *); omega) | (have hc2 := hc; simp only [Bool.and_eq_true, Bool.or_eq_true, Bool.or_eq_false_iff, Bool.and_eq_false_iff, Bool.not_eq_true', Bool.not_eq_false', decide_eq_true_eq, decide_eq_false_iff_not, beq_iff_eq, bne_iff_ne, List.length_map, List.length_take] at hc2; omega))) ?_
              refine sq_plain rfl rfl rfl (w_move rfl (ev_tmp rfl)) ?_
              refine sq_nil ?_
              refine round_end i (i + 1) ?_ ?_ (le_drop 1 ⟨congrArg (fun z => some (AV.str z)) (by first | (exfalso; omega) | (rw [ops_next hx]; (first | rw [if_pos (show 0 < i by omega)] | rw [if_neg (show ¬ 0 < i by omega)]); simp [opB, opVal, opHd, hasValK, hasByK, *]; done)), rfl, rfl, rfl, rfl, trivial⟩)
              · exact ⟨by omega, opsB_take hg (i + 1)⟩
              · omega
          · intro h38
            have k38 := ne_of_beqf h38; try simp only [List.length_map] at k38
            refine awp_region ?_
            refine sq_plain rfl rfl rfl (w_eql rfl (ev_tmp rfl) ev_ci) ?_
            refine sq_plain rfl rfl rfl (w_assign rfl (ev_tmp rfl)) ?_
            refine sq_nil ?_
            refine awp_cond (ev_tmp rfl) ?_ ?_
            · intro h38
              have k38 := eq_of_beqt h38; try simp only [List.length_map] at k38
              refine awp_region ?_
              refine sq_plain rfl rfl rfl (w_move rfl (ev_tmp rfl)) ?_
              refine sq_plain rfl rfl rfl (w_fldBn 3 rfl Tryz.underlying55 rfl Tryz.sizeOf3 (ev_tmp rfl) rfl) ?_
              refine sq_plain rfl rfl rfl (w_loadB1 0 rfl (ev_tmp rfl) rfl Tryz.isAgg3 rfl) ?_
              refine sq_plain rfl rfl rfl (w_call rfl Tryz.call100 rfl (l5Text_spec _ (by omega)) (evl_cons (ev_tmp rfl) evl_nil)) ?_
              refine sq_plain rfl rfl rfl (w_cat rfl (ev_cs' (l := [32]) rfl) (ev_tmp rfl) (by first | omega | (simp only [List.length_append, List.length_take, List.length_drop, List.length_cons, List.length_nil]; omega))) ?_
              refine sq_plain rfl rfl rfl (w_cat rfl (ev_tmp rfl) (ev_tmp rfl) (by first | omega | (simp only [List.length_append, List.length_take, List.length_drop, List.length_cons, List.length_nil]; omega))) ?_
              refine sq_plain rfl rfl rfl (w_assign rfl (ev_tmp rfl)) ?_
              refine sq_nil ?_
              refine awp_region ?_
              refine sq_plain rfl rfl rfl (w_addi rfl (ev_tmp rfl) ev_ci (by first | omega | ((try simp only [List.length_map, List.length_take, List.length_cons, List.length_nil, chunks_len, szR] at *); omega) | (have hc2 := hc; simp only [Bool.and_eq_true, Bool.or_eq_true, Bool.or_eq_false_iff, Bool.and_eq_false_iff, Bool.not_eq_true', Bool.not_eq_false', decide_eq_true_eq, decide_eq_false_iff_not, beq_iff_eq, bne_iff_ne, List.length_map, List.length_take] at hc2; omega))) ?_
              refine sq_plain rfl rfl rfl (w_move rfl (ev_tmp rfl)) ?_
              refine sq_nil ?_
              refine round_end i (i + 1) ?_ ?_ (le_drop 1 ⟨congrArg (fun z => some (AV.str z)) (by first | (exfalso; omega) | (rw [ops_next hx]; (first | rw [if_pos (show 0 < i by omega)] | rw [if_neg (show ¬ 0 < i by omega)]); simp [opB, opVal, opHd, hasValK, hasByK, *]; done)), rfl, rfl, rfl, rfl, trivial⟩)
              · exact ⟨by omega, opsB_take hg (i + 1)⟩
              · omega
            · intro h38
              have k38 := ne_of_beqf h38; try simp only [List.length_map] at k38
              refine awp_skip ?_
              refine awp_region ?_
              refine sq_plain rfl rfl rfl (w_addi rfl (ev_tmp rfl) ev_ci (by first | omega | ((try simp only [List.length_map, List.length_take, List.length_cons, List.length_nil, chunks_len, szR] at *); omega) | (have hc2 := hc; simp only [Bool.and_eq_true, Bool.or_eq_true, Bool.or_eq_false_iff, Bool.and_eq_false_iff, Bool.not_eq_true', Bool.not_eq_false', decide_eq_true_eq, decide_eq_false_iff_not, beq_iff_eq, bne_iff_ne, List.length_map, List.length_take] at hc2; omega))) ?_
              refine sq_plain rfl rfl rfl (w_move rfl (ev_tmp rfl)) ?_
              refine sq_nil ?_
              refine round_end i (i + 1) ?_ ?_ (le_drop 1 ⟨congrArg (fun z => some (AV.str z)) (by first | (exfalso; omega) | (rw [ops_next hx]; (first | rw [if_pos (show 0 < i by omega)] | rw [if_neg (show ¬ 0 < i by omega)]); simp [opB, opVal, opHd, hasValK, hasByK, *]; done)), rfl, rfl, rfl, rfl, trivial⟩)
              · exact ⟨by omega, opsB_take hg (i + 1)⟩
              · omega
  · intro h9
    have k9 := of_decide_eq_false h9; try simp only [List.length_map] at k9
    have hge : i = l.length := by omega
    rw [hge, List.take_length]
    refine awp_exit ?_
    refine awp_seq ?_
    refine awp_region ?_
    refine sq_plain rfl rfl rfl (w_move rfl (ev_tmp rfl)) ?_
    refine sq_plain rfl rfl rfl (w_assign rfl (ev_tmp rfl)) ?_
    refine sq_nil ?_
    refine awp_ret ?_
    exact retR rfl (rv_tmp' rfl (by rfl))
theorem opsTextS_spec (l : List TOp) (hs : sizeL TOp.size l ≤ 1048576) : FSpec Tryz.prog 8 [AV.list 4 (l.map TOp.cs)] (AV.tup [AV.str (opsTextR l).1, AV.bool (opsTextR l).2]) := by
  refine spec_of_awp Tryz.func8 rfl Tryz.ntmps8 rfl ?_
  refine awp_seq ?_
  refine awp_region ?_
  refine sq_plain rfl rfl rfl (w_assign rfl (ev_cs' (l := []) rfl)) ?_
  refine sq_plain rfl rfl rfl (w_assign rfl ev_cb) ?_
  refine sq_nil ?_
  refine awp_seq ?_
  refine awp_seq ?_
  refine awp_region ?_
  refine sq_plain rfl rfl rfl (w_move rfl (ev_tmp rfl)) ?_
  refine sq_plain rfl rfl rfl (w_call rfl Tryz.call39 rfl (l5Good_spec _ (by first | assumption | omega)) (evl_cons (ev_tmp rfl) evl_nil)) ?_
  refine sq_plain rfl rfl rfl (w_not rfl (ev_tmp rfl)) ?_
  refine sq_nil ?_
  refine awp_cond (ev_tmp rfl) ?_ ?_
  · intro h6
    have he : opsTextR l = ([], false) := if_neg (by rw [goodOps_eq]; simpa using h6)
    rw [he]
    refine awp_seq ?_
    refine awp_region ?_
    refine sq_plain rfl rfl rfl (w_assign rfl (ev_cs' (l := []) rfl)) ?_
    refine sq_plain rfl rfl rfl (w_assign rfl ev_cb) ?_
    refine sq_nil ?_
    refine awp_ret ?_
    exact retN rfl (by decide) (rv_cons (rv_tmp' rfl (by rfl)) (rv_cons (rv_tmp' rfl (by rfl)) rv_nil))
  · intro h6
    have hg : goodOps l = true := by (rw [goodOps_eq]; simpa using h6)
    have he : opsTextR l = (opsB l, true) := if_pos hg
    rw [he]
    refine awp_skip ?_
    refine awp_seq ?_
    refine awp_region ?_
    refine sq_plain rfl rfl rfl (w_move rfl (ev_tmp rfl)) ?_
    refine sq_plain rfl rfl rfl (w_call rfl Tryz.call40 rfl (l5OpsText_spec _ (by first | assumption | omega)) (evl_cons (ev_tmp rfl) evl_nil)) ?_
    refine sq_plain rfl rfl rfl (w_assign rfl (ev_tmp rfl)) ?_
    refine sq_plain rfl rfl rfl (w_assign rfl ev_cb) ?_
    refine sq_nil ?_
    refine awp_ret ?_
    exact retN rfl (by decide) (rv_cons (rv_tmp' rfl (by rfl)) (rv_cons (rv_tmp' rfl (by rfl)) rv_nil))
end Go.Proofs.YtmlmmgeadombbaaGreatDoor

set_option linter.unusedVariables false
set_option linter.unusedSimpArgs false
set_option maxRecDepth 100000
set_option maxHeartbeats 1000000
namespace Go.AV
/-- A function of two texts that hands out the pieces in a new row. -/
theorem pieces2_own {P : Program} {f : FuncId} {T : World → Prop} {s : List UInt8} {p : List UInt8} {t : TypeId} {L : List (List UInt8)} {ps : List ByteArray} (hL : ps.map (·.data.toList) = L) (hlen : ps.length ≤ maxLen)
    (h : ∀ w : World, T w → Calls P f #[.string ⟨s.toArray⟩, .string ⟨p.toArray⟩] w fun e w' => e = .returned (.slice (some ⟨w.heap.size, 0, none⟩) ps.length ps.length) ∧ w' = w.alloc (.cells (ps.map Value.string).toArray t)) :
    GSpec P f [AV.wt T (AV.str s), AV.str p] [] (fun _ : Value => True) (fun v => [.arr v t 1 (L.map fun x => [AV.str x])]) (fun v => AV.is v) := fun R w vs hr hd _ _ => by
  match vs, hd.1 with
  | [u, v], _ =>
    have h1 := hd.2 0 u _ rfl rfl
    have h2 := hd.2 1 v _ rfl rfl
    rw [show u = Value.string ⟨s.toArray⟩ from h1.1, show v = Value.string ⟨p.toArray⟩ from h2]
    refine (h w (h1.2 w hr)).mono fun e w' ⟨e1, e2⟩ => ?_
    subst e1; subst e2; subst hL
    refine ⟨_, _, R, trivial, rfl, rfl, ?_⟩
    exact core_arr_new (core_start hr) (by simp) (Nat.le_refl _) hlen (by simp) (fun x hx => by
      obtain ⟨b, _, rfl⟩ := List.mem_map.1 hx; rfl) (by
      have h9 := denC_strs (R := R) ps
      have e9 : ((ps.map Value.string).toArray.toList.take (ps.length * 1)) = ps.map Value.string := by rw [Nat.mul_one]; exact List.take_of_length_le (by simp)
      rw [e9]; exact h9)
end Go.AV
namespace Go.Proofs.YtmlmmgeadombbaaGreatDoor
open Go Go.AV Go.M
attribute [local irreducible] OpW OpA OpS AWP FSpec ESpec GSpec OpE RetOk RetOkG RvDen Le Ev GuardIs SrcIs Int.tmod Int.tdiv IntKind.wrap
theorem split2_spec (s : Str) (hs : s.length ≤ 1048576) : FSpec Tryz.prog 41 [AV.wt readW (AV.str s), AV.str [59, 32]] (strs (cutW s)) := by
  have hsz : (ByteArray.mk s.toArray).size = s.length := size_mk s
  have h2 : 1 ≤ (⟨#[59, 32]⟩ : ByteArray).size := by decide
  have hle := Lib.countB_le ⟨#[59, 32]⟩ h2 _ ⟨s.toArray⟩ (Nat.le_refl _)
  have hlen := Lib.splitB_all ⟨#[59, 32]⟩ h2 0 _ ⟨s.toArray⟩ rfl
  refine fspec_of_gspec (pieces2_own (T := readW) (t := 9) (s := s) (p := [59, 32]) (ps := Lib.splitB ⟨#[59, 32]⟩ 0 (Lib.countB ⟨s.toArray⟩ ⟨#[59, 32]⟩) ⟨s.toArray⟩) ?_ ?_ fun w hT => ?_) fun v _ => lt_arr (List.mem_singleton.2 rfl) le_refl_e
  · rw [Lib.splitB_data]; rfl
  · rw [hlen]; unfold maxLen; omega
  · obtain ⟨_, ⟨m, hm⟩, _⟩ := hT
    refine (Any.strings_Split Tryz.split (by kernel_rfl) ⟨s.toArray⟩ ⟨#[59, 32]⟩ m w (by rw [hsz]; omega) hm h2).mono fun e w' ⟨e1, e2⟩ => ?_
    rw [hlen]
    exact ⟨e1, e2⟩
theorem cutW_count (s : Str) : (cutW s).length ≤ s.length + 1 := by
  have hsz : (ByteArray.mk s.toArray).size = s.length := size_mk s
  have h2 : 1 ≤ (⟨#[59, 32]⟩ : ByteArray).size := by decide
  have hle := Lib.countB_le ⟨#[59, 32]⟩ h2 _ ⟨s.toArray⟩ (Nat.le_refl _)
  have hlen := Lib.splitB_all ⟨#[59, 32]⟩ h2 0 _ ⟨s.toArray⟩ rfl
  have e : (Lib.splitB ⟨#[59, 32]⟩ 0 (Lib.countB ⟨s.toArray⟩ ⟨#[59, 32]⟩) ⟨s.toArray⟩).map (·.data.toList) = cutW s := by rw [Lib.splitB_data]; rfl
  rw [← e, List.length_map, hlen]
  omega
theorem numberIn_spec (s : Str) (hs : s.length ≤ 1048576) : FSpec Tryz.prog 14 [AV.wt readW (AV.str s)] (AV.tup [AV.int (readI s (-999999) 999999).1, AV.bool (readI s (-999999) 999999).2]) := by
  refine spec_of_awp Tryz.func14 rfl Tryz.ntmps14 rfl ?_
  refine AWP.le (le_tab (t := 0) rfl) ?_
  refine awp_seq ?_
  refine awp_region ?_
  refine sq_plain rfl rfl rfl (w_assign rfl ev_ci) ?_
  refine sq_plain rfl rfl rfl (w_assign rfl ev_cb) ?_
  refine sq_nil ?_
  refine awp_seq ?_
  refine awp_region ?_
  refine sq_plain rfl rfl rfl (w_move rfl (ev_tmp rfl)) ?_
  refine sq_plain rfl rfl rfl (w_callT 0 rfl rfl Tryz.call46 rfl (readInt_spec _ _ _ (by first | assumption | omega)) (evl_cons (ev_tmp rfl) (evl_cons ev_ci (evl_cons ev_ci evl_nil))) (by first | exact fun _ h => h | exact fun _ h => h.1)) ?_
  refine sq_plain rfl rfl rfl (w_extract rfl (ev_tmp rfl) rfl) ?_
  refine sq_plain rfl rfl rfl (w_extract rfl (ev_tmp rfl) rfl) ?_
  refine sq_plain rfl rfl rfl (w_assign rfl (ev_tmp rfl)) ?_
  refine sq_plain rfl rfl rfl (w_assign rfl (ev_tmp rfl)) ?_
  refine sq_nil ?_
  refine awp_ret ?_
  exact retN rfl (by decide) (rv_cons (rv_tmp' rfl (by rfl)) (rv_cons (rv_tmp' rfl (by rfl)) rv_nil))
theorem l1R_low (s : Str) : -1 ≤ l1R s := by
  have h : ∀ (s : Str) (n : Nat), -1 ≤ rdFrom n s := by
    intro s
    induction s with
    | nil => intro n; unfold rdFrom; omega
    | cons b s ih => intro n; unfold rdFrom; split; exact ih _; omega
  unfold l1R; split
  · omega
  · exact h s 0
theorem rd_up : ∀ (s : Str) (n k : Nat), n + 1 ≤ 10 ^ k → rdFrom n s + 1 ≤ 10 ^ (k + s.length)
  | [], n, k, h => by
    have : ((n + 1 : Nat) : Int) ≤ ((10 ^ k : Nat) : Int) := Int.ofNat_le.2 h
    simp only [rdFrom, List.length_nil, Nat.add_zero]
    push_cast at this ⊢; exact this
  | b :: s, n, k, h => by
    unfold rdFrom
    split
    · rename_i hd
      have h2 : b.toNat - 48 ≤ 9 := by unfold isDig at hd; simp at hd; omega
      have := rd_up s (10 * n + (b.toNat - 48)) (k + 1) (by rw [Nat.pow_succ]; omega)
      rw [List.length_cons, show k + (s.length + 1) = k + 1 + s.length by omega]; exact this
    · have : (0 : Int) ≤ 10 ^ (k + (b :: s).length) := Int.pow_nonneg (by decide)
      omega
theorem l1R_up (s : Str) : l1R s ≤ 999999 := by
  unfold l1R; split
  · omega
  · rename_i h
    have hl : s.length ≤ 6 := by
      unfold l1BadB within at h
      simp only [Bool.or_eq_true, not_or] at h
      have := h.1; simp at this; omega
    have h1 := rd_up s 0 0 (by decide)
    have h2 : (10 : Int) ^ (0 + s.length) ≤ 10 ^ 6 := by
      have := Nat.pow_le_pow_right (n := 10) (by decide) (show 0 + s.length ≤ 6 by omega)
      exact_mod_cast this
    have h3 : (10 : Int) ^ 6 = 1000000 := by decide
    omega
theorem l5Num_spec (s : Str) (hs : s.length ≤ 1048576) : FSpec Tryz.prog 53 [AV.str s] (AV.tup [AV.int (l5N s).1, AV.bool (l5N s).2]) := by
  have hlo1 := l1R_low s
  have hlo2 := l1R_low (s.drop 1)
  have hup1 := l1R_up s
  have hup2 := l1R_up (s.drop 1)
  have hd1 : (s.drop 1).length ≤ 1048576 := by rw [List.length_drop]; omega
  obtain ⟨b0, hb0⟩ := get_any s 0
  have hneg : (decide ((0 : Int) < (s.length : Int)) && ((b0.toNat : Int) == 45)) = decide (s.head? = some 45) := by
    cases s with
    | nil => rfl
    | cons c r =>
      have e := hb0 (by simp)
      simp at e; subst e
      rw [Bool.eq_iff_iff]
      simp only [List.length_cons, Bool.and_eq_true, decide_eq_true_eq, beq_iff_eq, List.head?_cons, Option.some.injEq]
      constructor
      · intro h; exact UInt8.toNat_inj.1 (by have := h.2; simp; omega)
      · intro h; subst h; exact ⟨by omega, rfl⟩
  refine spec_of_awp Tryz.func53 rfl Tryz.ntmps53 rfl ?_
  refine awp_seq ?_
  refine awp_region ?_
  refine sq_plain rfl rfl rfl (w_assign rfl ev_ci) ?_
  refine sq_plain rfl rfl rfl (w_assign rfl ev_cb) ?_
  refine sq_nil ?_
  refine awp_seq ?_
  refine awp_region ?_
  refine sq_plain rfl rfl rfl (w_move rfl (ev_tmp rfl)) ?_
  refine sq_plain rfl rfl rfl (w_slen rfl Tryz.underlying9 (ev_tmp rfl)) ?_
  refine sq_plain rfl rfl rfl (w_gtr rfl (ev_tmp rfl) ev_ci) ?_
  refine sq_plain rfl rfl rfl (w_move rfl (ev_tmp rfl)) ?_
  refine sq_grd rfl rfl (guard_t rfl rfl rfl) (fun hc => w_move rfl (ev_tmp rfl)) ?_
  refine sq_grd rfl rfl (guard_t rfl rfl rfl) (fun hc => w_sidx rfl Tryz.underlying9 (ev_whn rfl hc) ev_ci (by omega) (hb0 (by have := of_decide_eq_true hc; omega))) ?_
  refine sq_grd rfl rfl (guard_t rfl rfl rfl) (fun hc => w_eql rfl (ev_whn rfl hc) ev_ci) ?_
  refine sq_plain rfl rfl rfl (w_and rfl (ev_tmp rfl) (evif_w rfl)) ?_
  refine sq_plain rfl rfl rfl (w_assign rfl (ev_tmp rfl)) ?_
  refine sq_nil ?_
  refine awp_seq ?_
  rw [hneg]
  refine awp_region ?_
  refine sq_plain rfl rfl rfl (w_move rfl (ev_tmp rfl)) ?_
  refine sq_plain rfl rfl rfl (w_assign rfl (ev_tmp rfl)) ?_
  refine sq_nil ?_
  refine awp_seq ?_
  refine awp_seq ?_
  refine awp_region ?_
  refine sq_plain rfl rfl rfl (w_move rfl (ev_tmp rfl)) ?_
  refine sq_nil ?_
  refine awp_cond (ev_tmp rfl) ?_ ?_
  · intro h16
    have hh : s.head? = some 45 := of_decide_eq_true h16
    have hbody : (if s.head? = some 45 then s.drop 1 else s) = s.drop 1 := if_pos hh
    have hl1 : 1 ≤ s.length := by (cases s with | nil => cases hh | cons c r => simp)
    refine awp_region ?_
    refine sq_plain rfl rfl rfl (w_move rfl (ev_tmp rfl)) ?_
    refine sq_plain rfl rfl rfl (w_ssl_lo rfl Tryz.underlying9 (ev_tmp rfl) ev_ci (by first | omega | ((try simp only [List.length_map, List.length_take, List.length_cons, List.length_nil, chunks_len, szR] at *); omega) | (have hc2 := hc; simp only [Bool.and_eq_true, Bool.or_eq_true, Bool.or_eq_false_iff, Bool.and_eq_false_iff, Bool.not_eq_true', Bool.not_eq_false', decide_eq_true_eq, decide_eq_false_iff_not, beq_iff_eq, bne_iff_ne, List.length_map, List.length_take] at hc2; omega)) (by first | omega | ((try simp only [List.length_map, List.length_take, List.length_cons, List.length_nil, chunks_len, szR] at *); omega) | (have hc2 := hc; simp only [Bool.and_eq_true, Bool.or_eq_true, Bool.or_eq_false_iff, Bool.and_eq_false_iff, Bool.not_eq_true', Bool.not_eq_false', decide_eq_true_eq, decide_eq_false_iff_not, beq_iff_eq, bne_iff_ne, List.length_map, List.length_take] at hc2; omega))) ?_
    refine sq_plain rfl rfl rfl (w_assign rfl (ev_tmp rfl)) ?_
    refine sq_nil ?_
    refine awp_seq ?_
    refine awp_region ?_
    refine sq_plain rfl rfl rfl (w_move rfl (ev_tmp rfl)) ?_
    refine sq_plain rfl rfl rfl (w_call rfl Tryz.call86 rfl (l1Read_spec _ (by first | exact hs | exact hd1)) (evl_cons (ev_tmp rfl) evl_nil)) ?_
    refine sq_plain rfl rfl rfl (w_assign rfl (ev_tmp rfl)) ?_
    refine sq_nil ?_
    refine awp_seq ?_
    refine awp_seq ?_
    refine awp_region ?_
    refine sq_plain rfl rfl rfl (w_move rfl (ev_tmp rfl)) ?_
    refine sq_plain rfl rfl rfl (w_lss rfl (ev_tmp rfl) ev_ci) ?_
    refine sq_plain rfl rfl rfl (w_move rfl (ev_tmp rfl)) ?_
    refine sq_grd rfl rfl (guard_f rfl rfl rfl) (fun hc => w_move rfl (ev_tmp rfl)) ?_
    refine sq_grd rfl rfl (guard_f rfl rfl rfl) (fun hc => w_move rfl (ev_whn rfl hc)) ?_
    refine sq_grd rfl rfl (guard_wt rfl rfl rfl) (fun hc => w_move rfl (ev_tmp rfl)) ?_
    refine sq_grd rfl rfl (guard_wt rfl rfl rfl) (fun hc => w_eql rfl (ev_whn rfl hc) ev_ci) ?_
    refine sq_grd rfl rfl (guard_f rfl rfl rfl) (fun hc => w_and rfl (ev_whn rfl hc) (evif_w2 rfl hc)) ?_
    refine sq_plain rfl rfl rfl (w_or rfl (ev_tmp rfl) (evif_w rfl)) ?_
    refine sq_nil ?_
    refine awp_cond (ev_tmp rfl) ?_ ?_
    · intro h29
      have he : l5N s = (0, false) := by (unfold l5N; rw [hbody]; exact if_pos h29)
      rw [he]
      refine awp_seq ?_
      refine awp_region ?_
      refine sq_plain rfl rfl rfl (w_assign rfl ev_ci) ?_
      refine sq_plain rfl rfl rfl (w_assign rfl ev_cb) ?_
      refine sq_nil ?_
      refine awp_ret ?_
      exact retN rfl (by decide) (rv_cons (rv_tmp' rfl (by first | rfl | (rw [h16] at h30; cases h30; done) | exact congrArg AV.int ((in64 (by have e9 : l1R (List.drop (Int.toNat 1) s) = l1R (List.drop 1 s) := rfl; omega)).trans (Int.zero_sub _)))) (rv_cons (rv_tmp' rfl (by first | rfl | (rw [h16] at h30; cases h30; done) | exact congrArg AV.int ((in64 (by have e9 : l1R (List.drop (Int.toNat 1) s) = l1R (List.drop 1 s) := rfl; omega)).trans (Int.zero_sub _)))) rv_nil))
    · intro h29
      have he : l5N s = if s.head? = some 45 then (-(l1R (s.drop 1)), true) else (l1R s, true) := by (unfold l5N; rw [hbody]; exact if_neg (fun e => Bool.noConfusion (e.symm.trans h29)))
      rw [he]
      refine awp_skip ?_
      refine awp_seq ?_
      refine awp_seq ?_
      refine awp_region ?_
      refine sq_plain rfl rfl rfl (w_move rfl (ev_tmp rfl)) ?_
      refine sq_nil ?_
      refine awp_cond (ev_tmp rfl) ?_ ?_
      · intro h30
        rw [if_pos (of_decide_eq_true h30)]
        refine awp_seq ?_
        refine awp_region ?_
        refine sq_plain rfl rfl rfl (w_move rfl (ev_tmp rfl)) ?_
        refine sq_plain rfl rfl rfl (w_neg rfl (ev_tmp rfl)) ?_
        refine sq_plain rfl rfl rfl (w_assign rfl (ev_tmp rfl)) ?_
        refine sq_plain rfl rfl rfl (w_assign rfl ev_cb) ?_
        refine sq_nil ?_
        refine awp_ret ?_
        exact retN rfl (by decide) (rv_cons (rv_tmp' rfl (by first | rfl | (rw [h16] at h30; cases h30; done) | exact congrArg AV.int ((in64 (by have e9 : l1R (List.drop (Int.toNat 1) s) = l1R (List.drop 1 s) := rfl; omega)).trans (Int.zero_sub _)))) (rv_cons (rv_tmp' rfl (by first | rfl | (rw [h16] at h30; cases h30; done) | exact congrArg AV.int ((in64 (by have e9 : l1R (List.drop (Int.toNat 1) s) = l1R (List.drop 1 s) := rfl; omega)).trans (Int.zero_sub _)))) rv_nil))
      · intro h30
        rw [if_neg (of_decide_eq_false h30)]
        refine awp_skip ?_
        refine awp_seq ?_
        refine awp_region ?_
        refine sq_plain rfl rfl rfl (w_move rfl (ev_tmp rfl)) ?_
        refine sq_plain rfl rfl rfl (w_assign rfl (ev_tmp rfl)) ?_
        refine sq_plain rfl rfl rfl (w_assign rfl ev_cb) ?_
        refine sq_nil ?_
        refine awp_ret ?_
        exact retN rfl (by decide) (rv_cons (rv_tmp' rfl (by first | rfl | (rw [h16] at h30; cases h30; done) | exact congrArg AV.int ((in64 (by have e9 : l1R (List.drop (Int.toNat 1) s) = l1R (List.drop 1 s) := rfl; omega)).trans (Int.zero_sub _)))) (rv_cons (rv_tmp' rfl (by first | rfl | (rw [h16] at h30; cases h30; done) | exact congrArg AV.int ((in64 (by have e9 : l1R (List.drop (Int.toNat 1) s) = l1R (List.drop 1 s) := rfl; omega)).trans (Int.zero_sub _)))) rv_nil))
  · intro h16
    have hh : ¬ s.head? = some 45 := of_decide_eq_false h16
    have hbody : (if s.head? = some 45 then s.drop 1 else s) = s := if_neg hh
    refine awp_skip ?_
    refine awp_seq ?_
    refine awp_region ?_
    refine sq_plain rfl rfl rfl (w_move rfl (ev_tmp rfl)) ?_
    refine sq_plain rfl rfl rfl (w_call rfl Tryz.call86 rfl (l1Read_spec _ (by first | exact hs | exact hd1)) (evl_cons (ev_tmp rfl) evl_nil)) ?_
    refine sq_plain rfl rfl rfl (w_assign rfl (ev_tmp rfl)) ?_
    refine sq_nil ?_
    refine awp_seq ?_
    refine awp_seq ?_
    refine awp_region ?_
    refine sq_plain rfl rfl rfl (w_move rfl (ev_tmp rfl)) ?_
    refine sq_plain rfl rfl rfl (w_lss rfl (ev_tmp rfl) ev_ci) ?_
    refine sq_plain rfl rfl rfl (w_move rfl (ev_tmp rfl)) ?_
    refine sq_grd rfl rfl (guard_f rfl rfl rfl) (fun hc => w_move rfl (ev_tmp rfl)) ?_
    refine sq_grd rfl rfl (guard_f rfl rfl rfl) (fun hc => w_move rfl (ev_whn rfl hc)) ?_
    refine sq_grd rfl rfl (guard_wt rfl rfl rfl) (fun hc => w_move rfl (ev_tmp rfl)) ?_
    refine sq_grd rfl rfl (guard_wt rfl rfl rfl) (fun hc => w_eql rfl (ev_whn rfl hc) ev_ci) ?_
    refine sq_grd rfl rfl (guard_f rfl rfl rfl) (fun hc => w_and rfl (ev_whn rfl hc) (evif_w2 rfl hc)) ?_
    refine sq_plain rfl rfl rfl (w_or rfl (ev_tmp rfl) (evif_w rfl)) ?_
    refine sq_nil ?_
    refine awp_cond (ev_tmp rfl) ?_ ?_
    · intro h29
      have he : l5N s = (0, false) := by (unfold l5N; rw [hbody]; exact if_pos h29)
      rw [he]
      refine awp_seq ?_
      refine awp_region ?_
      refine sq_plain rfl rfl rfl (w_assign rfl ev_ci) ?_
      refine sq_plain rfl rfl rfl (w_assign rfl ev_cb) ?_
      refine sq_nil ?_
      refine awp_ret ?_
      exact retN rfl (by decide) (rv_cons (rv_tmp' rfl (by first | rfl | (rw [h16] at h30; cases h30; done) | exact congrArg AV.int ((in64 (by have e9 : l1R (List.drop (Int.toNat 1) s) = l1R (List.drop 1 s) := rfl; omega)).trans (Int.zero_sub _)))) (rv_cons (rv_tmp' rfl (by first | rfl | (rw [h16] at h30; cases h30; done) | exact congrArg AV.int ((in64 (by have e9 : l1R (List.drop (Int.toNat 1) s) = l1R (List.drop 1 s) := rfl; omega)).trans (Int.zero_sub _)))) rv_nil))
    · intro h29
      have he : l5N s = if s.head? = some 45 then (-(l1R (s.drop 1)), true) else (l1R s, true) := by (unfold l5N; rw [hbody]; exact if_neg (fun e => Bool.noConfusion (e.symm.trans h29)))
      rw [he]
      refine awp_skip ?_
      refine awp_seq ?_
      refine awp_seq ?_
      refine awp_region ?_
      refine sq_plain rfl rfl rfl (w_move rfl (ev_tmp rfl)) ?_
      refine sq_nil ?_
      refine awp_cond (ev_tmp rfl) ?_ ?_
      · intro h30
        rw [if_pos (of_decide_eq_true h30)]
        refine awp_seq ?_
        refine awp_region ?_
        refine sq_plain rfl rfl rfl (w_move rfl (ev_tmp rfl)) ?_
        refine sq_plain rfl rfl rfl (w_neg rfl (ev_tmp rfl)) ?_
        refine sq_plain rfl rfl rfl (w_assign rfl (ev_tmp rfl)) ?_
        refine sq_plain rfl rfl rfl (w_assign rfl ev_cb) ?_
        refine sq_nil ?_
        refine awp_ret ?_
        exact retN rfl (by decide) (rv_cons (rv_tmp' rfl (by first | rfl | (rw [h16] at h30; cases h30; done) | exact congrArg AV.int ((in64 (by have e9 : l1R (List.drop (Int.toNat 1) s) = l1R (List.drop 1 s) := rfl; omega)).trans (Int.zero_sub _)))) (rv_cons (rv_tmp' rfl (by first | rfl | (rw [h16] at h30; cases h30; done) | exact congrArg AV.int ((in64 (by have e9 : l1R (List.drop (Int.toNat 1) s) = l1R (List.drop 1 s) := rfl; omega)).trans (Int.zero_sub _)))) rv_nil))
      · intro h30
        rw [if_neg (of_decide_eq_false h30)]
        refine awp_skip ?_
        refine awp_seq ?_
        refine awp_region ?_
        refine sq_plain rfl rfl rfl (w_move rfl (ev_tmp rfl)) ?_
        refine sq_plain rfl rfl rfl (w_assign rfl (ev_tmp rfl)) ?_
        refine sq_plain rfl rfl rfl (w_assign rfl ev_cb) ?_
        refine sq_nil ?_
        refine awp_ret ?_
        exact retN rfl (by decide) (rv_cons (rv_tmp' rfl (by first | rfl | (rw [h16] at h30; cases h30; done) | exact congrArg AV.int ((in64 (by have e9 : l1R (List.drop (Int.toNat 1) s) = l1R (List.drop 1 s) := rfl; omega)).trans (Int.zero_sub _)))) (rv_cons (rv_tmp' rfl (by first | rfl | (rw [h16] at h30; cases h30; done) | exact congrArg AV.int ((in64 (by have e9 : l1R (List.drop (Int.toNat 1) s) = l1R (List.drop 1 s) := rfl; omega)).trans (Int.zero_sub _)))) rv_nil))
theorem numberInS_spec (s : Str) (hs : s.length ≤ 1048576) : FSpec Tryz.prog 15 [AV.str s] (AV.tup [AV.int (l5N s).1, AV.bool (l5N s).2]) := by
  refine spec_of_awp Tryz.func15 rfl Tryz.ntmps15 rfl ?_
  refine awp_seq ?_
  refine awp_region ?_
  refine sq_plain rfl rfl rfl (w_assign rfl ev_ci) ?_
  refine sq_plain rfl rfl rfl (w_assign rfl ev_cb) ?_
  refine sq_nil ?_
  refine awp_seq ?_
  refine awp_region ?_
  refine sq_plain rfl rfl rfl (w_move rfl (ev_tmp rfl)) ?_
  refine sq_plain rfl rfl rfl (w_call rfl Tryz.call53 rfl (l5Num_spec _ (by first | assumption | omega)) (evl_cons (ev_tmp rfl) evl_nil)) ?_
  refine sq_plain rfl rfl rfl (w_extract rfl (ev_tmp rfl) rfl) ?_
  refine sq_plain rfl rfl rfl (w_extract rfl (ev_tmp rfl) rfl) ?_
  refine sq_plain rfl rfl rfl (w_assign rfl (ev_tmp rfl)) ?_
  refine sq_plain rfl rfl rfl (w_assign rfl (ev_tmp rfl)) ?_
  refine sq_nil ?_
  refine awp_ret ?_
  exact retN rfl (by decide) (rv_cons (rv_tmp' rfl (by rfl)) (rv_cons (rv_tmp' rfl (by rfl)) rv_nil))
end Go.Proofs.YtmlmmgeadombbaaGreatDoor

set_option linter.unusedVariables false
set_option linter.unusedSimpArgs false
set_option maxRecDepth 100000
set_option maxHeartbeats 2000000
namespace Go.Proofs.YtmlmmgeadombbaaGreatDoor
open Go Go.AV Go.M
attribute [local irreducible] OpW OpA OpS AWP FSpec ESpec GSpec OpE RetOk RetOkG RvDen Le Ev GuardIs SrcIs Int.tmod Int.tdiv IntKind.wrap
theorem op_beq (x y : TOp) : (x.Kind == y.Kind && (x.Key == y.Key && (x.Val == y.Val && (x.By == y.By && true)))) = decide (x = y) := by
  cases x; cases y
  rw [Bool.eq_iff_iff]
  simp
theorem pSameOps_spec (a b : List TOp) : FSpec Tryz.prog 10 [AV.list 4 (a.map TOp.cs), AV.list 4 (b.map TOp.cs)] (AV.bool (decide (a = b))) := by
  refine spec_of_awp Tryz.func10 rfl Tryz.ntmps10 rfl ?_
  refine awp_len (t := 0) rfl fun hl => ?_
  try simp only [List.length_map] at hl
  refine awp_len (t := 1) rfl fun hl2 => ?_
  try simp only [List.length_map] at hl2
  refine awp_seq ?_
  refine awp_region ?_
  refine sq_plain rfl rfl rfl (w_assign rfl ev_cb) ?_
  refine sq_nil ?_
  refine awp_seq ?_
  refine awp_seq ?_
  refine awp_region ?_
  refine sq_plain rfl rfl rfl (w_move rfl (ev_tmp rfl)) ?_
  refine sq_plain rfl rfl rfl (w_llen rfl Tryz.underlying24 (ev_tmp rfl)) ?_
  refine sq_plain rfl rfl rfl (w_move rfl (ev_tmp rfl)) ?_
  refine sq_plain rfl rfl rfl (w_llen rfl Tryz.underlying24 (ev_tmp rfl)) ?_
  refine sq_plain rfl rfl rfl (w_neq rfl (ev_tmp rfl) (ev_tmp rfl)) ?_
  refine sq_nil ?_
  refine awp_cond (ev_tmp rfl) ?_ ?_
  · intro h10
    have k10 := ne_of_bne h10; try simp only [List.length_map] at k10
    have hne : decide (a = b) = false := decide_eq_false fun e => by (subst e; omega)
    rw [hne]
    refine awp_seq ?_
    refine awp_region ?_
    refine sq_plain rfl rfl rfl (w_assign rfl ev_cb) ?_
    refine sq_nil ?_
    refine awp_ret ?_
    exact retR rfl (rv_tmp' rfl (by rfl))
  · intro h10
    have k10 := eq_of_bne_false h10; try simp only [List.length_map] at k10
    refine awp_skip ?_
    refine awp_seq ?_
    refine awp_seq ?_
    refine awp_region ?_
    refine sq_plain rfl rfl rfl (w_move rfl (ev_tmp rfl)) ?_
    refine sq_plain rfl rfl rfl (w_llen rfl Tryz.underlying24 (ev_tmp rfl)) ?_
    refine sq_plain rfl rfl rfl (w_move rfl ev_ci) ?_
    refine sq_nil ?_
    refine awp_block ?_
    refine awp_loop_i [(0, _), (1, _), (12, _)] _ (fun (i : Nat) => i ≤ a.length ∧ a.take i = b.take i) (fun (i : Nat) => []) (fun (i : Nat) => [(13, AV.int i)]) (fun (i : Nat) => a.length - i) (0) ?_ (le_env ⟨rfl, rfl, rfl, rfl, trivial⟩) ?_
    · exact ⟨Nat.zero_le _, rfl⟩
    intro i hinv
    refine awp_seq ?_
    refine awp_region ?_
    refine sq_plain rfl rfl rfl (w_lss rfl (ev_tmp rfl) (ev_tmp rfl)) ?_
    refine sq_nil ?_
    refine awp_seq ?_
    refine awp_cond (ev_tmp rfl) ?_ ?_
    · intro h14
      have k14 := of_decide_eq_true h14; try simp only [List.length_map] at k14
      have hlt : i < a.length := by omega
      obtain ⟨x, hx⟩ := get_some hlt
      obtain ⟨y, hy⟩ := get_some (show i < b.length by omega)
      refine awp_skip ?_
      refine awp_seq ?_
      refine awp_block ?_
      refine awp_seq ?_
      refine awp_region ?_
      refine sq_plain rfl rfl rfl (w_move rfl (ev_tmp rfl)) ?_
      refine sq_plain rfl rfl rfl (w_assign rfl (ev_tmp rfl)) ?_
      refine sq_nil ?_
      refine awp_seq ?_
      refine awp_region_any (by kernel_rfl) (by kernel_rfl) rfl ?_
      refine ch_plain rfl rfl (w_move rfl (ev_tmp rfl)) ?_
      refine ch_plain rfl rfl (w_move rfl (ev_tmp rfl)) ?_
      refine ch_plain rfl rfl (w_idxm rfl Tryz.underlying24 Tryz.sizeOf55 (ev_tmp rfl) (ev_tmp rfl) hx (by first | omega | ((try simp only [List.length_map, List.length_take, List.length_cons, List.length_nil, chunks_len, szR] at *); omega) | (have hc2 := hc; simp only [Bool.and_eq_true, Bool.or_eq_true, Bool.or_eq_false_iff, Bool.and_eq_false_iff, Bool.not_eq_true', Bool.not_eq_false', decide_eq_true_eq, decide_eq_false_iff_not, beq_iff_eq, bne_iff_ne, List.length_map, List.length_take] at hc2; omega))) ?_
      refine ch_plain rfl rfl (w_loadE rfl (ev_tmp rfl) Tryz.isAgg55 Tryz.sizeOf55) ?_
      refine ch_plain rfl rfl (w_move rfl (ev_tmp rfl)) ?_
      refine ch_plain rfl rfl (w_move rfl (ev_tmp rfl)) ?_
      refine ch_plain rfl rfl (w_idxm rfl Tryz.underlying24 Tryz.sizeOf55 (ev_tmp rfl) (ev_tmp rfl) hy (by first | omega | ((try simp only [List.length_map, List.length_take, List.length_cons, List.length_nil, chunks_len, szR] at *); omega) | (have hc2 := hc; simp only [Bool.and_eq_true, Bool.or_eq_true, Bool.or_eq_false_iff, Bool.and_eq_false_iff, Bool.not_eq_true', Bool.not_eq_false', decide_eq_true_eq, decide_eq_false_iff_not, beq_iff_eq, bne_iff_ne, List.length_map, List.length_take] at hc2; omega))) ?_
      refine ch_plain rfl rfl (w_loadE rfl (ev_tmp rfl) Tryz.isAgg55 Tryz.sizeOf55) ?_
      refine ch_plain rfl rfl (w_aneq rfl Tryz.underlying55 (by kernel_rfl) (by kernel_rfl) (ev_tmp rfl) (ev_tmp rfl) (eqf_cons (by kernel_rfl) Tryz.isAgg3 rfl rfl (eqf_int Tryz.underlying3) (eqf_cons (by kernel_rfl) Tryz.isAgg9 rfl rfl (eqf_str Tryz.underlying9) (eqf_cons (by kernel_rfl) Tryz.isAgg9 rfl rfl (eqf_str Tryz.underlying9) (eqf_cons (by kernel_rfl) Tryz.isAgg3 rfl rfl (eqf_int Tryz.underlying3) eqf_nil))))) ?_
      refine ch_nil ?_
      refine awp_cond (ev_tmp rfl) ?_ ?_
      · intro h24
        have hne : decide (a = b) = false := decide_eq_false fun e => by (subst e; rw [hx] at hy; injection hy with hy; rw [op_beq] at h24; simp [hy] at h24)
        rw [hne]
        refine awp_seq ?_
        refine awp_region ?_
        refine sq_plain rfl rfl rfl (w_assign rfl ev_cb) ?_
        refine sq_nil ?_
        refine awp_ret ?_
        exact retR rfl (rv_tmp' rfl (by rfl))
      · intro h24
        refine awp_skip ?_
        refine awp_region ?_
        refine sq_plain rfl rfl rfl (w_addi rfl (ev_tmp rfl) ev_ci (by first | omega | ((try simp only [List.length_map, List.length_take, List.length_cons, List.length_nil, chunks_len, szR] at *); omega) | (have hc2 := hc; simp only [Bool.and_eq_true, Bool.or_eq_true, Bool.or_eq_false_iff, Bool.and_eq_false_iff, Bool.not_eq_true', Bool.not_eq_false', decide_eq_true_eq, decide_eq_false_iff_not, beq_iff_eq, bne_iff_ne, List.length_map, List.length_take] at hc2; omega))) ?_
        refine sq_plain rfl rfl rfl (w_move rfl (ev_tmp rfl)) ?_
        refine sq_nil ?_
        refine round_end i (i + 1) ?_ ?_ (le_env ⟨rfl, rfl, rfl, rfl, trivial⟩)
        · exact ⟨by omega, by rw [List.take_add_one, List.take_add_one, hinv.2, hx, hy]; congr 2; rw [op_beq] at h24; simpa using h24⟩
        · omega
    · intro h14
      have k14 := of_decide_eq_false h14; try simp only [List.length_map] at k14
      have hyes : decide (a = b) = true := decide_eq_true (by have h9 := hinv.2; rw [List.take_of_length_le (by omega), List.take_of_length_le (by omega)] at h9; exact h9)
      rw [hyes]
      refine awp_exit ?_
      refine awp_seq ?_
      refine awp_region ?_
      refine sq_plain rfl rfl rfl (w_assign rfl ev_cb) ?_
      refine sq_nil ?_
      refine awp_ret ?_
      exact retR rfl (rv_tmp' rfl (by rfl))
theorem opOf_size {w : List Str} {m : Nat} (h : ∀ p ∈ w, p.length ≤ m) : (opOf w).size ≤ 2 * m := by
  have h1 : (w.getD 1 []).length ≤ m := by
    cases hw : w[1]? with
    | none => rw [List.getD_eq_getElem?_getD, hw]; exact Nat.zero_le _
    | some p => rw [List.getD_eq_getElem?_getD, hw]; exact h p (List.mem_of_getElem? hw)
  have h2 : (w.getD 2 []).length ≤ m := by
    cases hw : w[2]? with
    | none => rw [List.getD_eq_getElem?_getD, hw]; exact Nat.zero_le _
    | some p => rw [List.getD_eq_getElem?_getD, hw]; exact h p (List.mem_of_getElem? hw)
  unfold opOf TOp.size
  dsimp only
  split
  · omega
  · simp only [List.length_nil]; omega
theorem opOfS_size {w : List Str} {m : Nat} (h : ∀ p ∈ w, p.length ≤ m) : (opOfS w).size ≤ 2 * m := by
  have h1 : (w.getD 1 []).length ≤ m := by
    cases hw : w[1]? with
    | none => rw [List.getD_eq_getElem?_getD, hw]; exact Nat.zero_le _
    | some p => rw [List.getD_eq_getElem?_getD, hw]; exact h p (List.mem_of_getElem? hw)
  have h2 : (w.getD 2 []).length ≤ m := by
    cases hw : w[2]? with
    | none => rw [List.getD_eq_getElem?_getD, hw]; exact Nat.zero_le _
    | some p => rw [List.getD_eq_getElem?_getD, hw]; exact h p (List.mem_of_getElem? hw)
  unfold opOfS TOp.size
  dsimp only
  split
  · omega
  · simp only [List.length_nil]; omega
theorem sizeL_appO {α : Type} {f : α → Nat} {l r : List α} : sizeL f (l ++ r) = sizeL f l + sizeL f r := by unfold sizeL; simp; omega
theorem snoc_sz {q : List TOp} {o : TOp} {i m : Nat} (h : sizeL TOp.size q ≤ m * i) (ho : o.size + 1 ≤ m) : sizeL TOp.size (q ++ [o]) ≤ m * (i + 1) := by
  rw [sizeL_appO, Nat.mul_add]
  have : sizeL TOp.size [o] = o.size + 1 := by simp [sizeL]; omega
  omega
theorem two_more {w : List Str} (h : ¬ w.length < 2) : ∃ a b r, w = a :: b :: r := by
  match w, h with
  | a :: b :: r, _ => exact ⟨a, b, r, rfl⟩
  | [], h => simp at h
  | [a], h => simp at h
theorem cnd_t {α β : Type} {l : List α} {f : α → β} {b : Bool} (h : ((((l.map f).length : Nat) : Int) == 3 && b) = true) : l.length = 3 ∧ b = true := by
  rw [Bool.and_eq_true, List.length_map] at h
  exact ⟨by have := h.1; simp at this; omega, h.2⟩
theorem cnd_f {α β : Type} {l : List α} {f : α → β} {b : Bool} (h : ((((l.map f).length : Nat) : Int) == 3 && b) = false) : ¬ (l.length = 3 ∧ b = true) := fun ⟨e1, e2⟩ => by
  rw [List.length_map, e1, e2] at h; cases h
theorem indexW_spec (s : Str) : FSpec Tryz.prog 42 [AV.list 1 (opWs.map fun s => [AV.str s]), AV.str s] (AV.int (idxW s)) := indexS_spec opWs s
theorem readOps_spec (s : Str) (hs : s.length ≤ 1048576) : FSpec Tryz.prog 9 [AV.wt readW (AV.str s)] (AV.tup [AV.list 4 ((parseO s).1.map TOp.cs), AV.bool (parseO s).2]) := by
  refine spec_of_awp Tryz.func9 rfl Tryz.ntmps9 rfl ?_
  refine AWP.le (le_tab (t := 0) rfl) ?_
  refine awp_seq ?_
  refine awp_region ?_
  refine sq_plain rfl rfl rfl (w_assign rfl (ev_cnil (sz := 4))) ?_
  refine sq_plain rfl rfl rfl (w_assign rfl ev_cb) ?_
  refine sq_nil ?_
  refine awp_seq ?_
  refine awp_region ?_
  refine sq_emptyarr rfl rfl rfl rfl Tryz.underlying24 Tryz.sizeOf55 ?_
  intro v9
  refine sq_plain rfl rfl rfl (w_assign rfl (ev_tmp rfl)) ?_
  refine sq_nil ?_
  refine awp_seq ?_
  refine awp_seq ?_
  refine awp_region ?_
  refine sq_plain rfl rfl rfl (w_move rfl (ev_tmp rfl)) ?_
  refine sq_plain rfl rfl rfl (w_seql rfl (ev_tmp rfl) (ev_cs' (l := []) rfl)) ?_
  refine sq_nil ?_
  refine awp_cond (ev_tmp rfl) ?_ ?_
  · intro h11
    have he : parseO s = ([], true) := if_pos (by simpa using h11)
    rw [he]
    refine awp_seq ?_
    refine awp_region ?_
    refine sq_plain rfl rfl rfl (w_move rfl (ev_tmp rfl)) ?_
    refine sq_plain rfl rfl rfl (w_assign rfl (ev_tmp rfl)) ?_
    refine sq_plain rfl rfl rfl (w_assign rfl ev_cb) ?_
    refine sq_nil ?_
    refine awp_ret ?_
    refine ret_seal 0 2 rfl rfl ?_
    exact retN rfl (by decide) (rv_cons (rv_tmp' rfl (by rfl)) (rv_cons (rv_tmp' rfl (by rfl)) rv_nil))
  · intro h11
    have hs0 : ¬ s = [] := by simpa using h11
    refine awp_skip ?_
    refine awp_seq ?_
    refine awp_seq ?_
    refine awp_region ?_
    refine sq_plain rfl rfl rfl (w_move rfl (ev_tmp rfl)) ?_
    refine sq_plain rfl rfl rfl (w_slen rfl Tryz.underlying9 (ev_tmp rfl)) ?_
    refine sq_plain rfl rfl rfl (w_gtr rfl (ev_tmp rfl) ev_ci) ?_
    refine sq_nil ?_
    refine awp_cond (ev_tmp rfl) ?_ ?_
    · intro h15
      have k15 := of_decide_eq_true h15; try simp only [List.length_map] at k15
      have he : parseO s = ([], false) := by (unfold parseO; rw [if_neg hs0, if_pos (by omega)])
      rw [he]
      refine awp_seq ?_
      refine awp_region ?_
      refine sq_plain rfl rfl rfl (w_assign rfl (ev_cnil (sz := 4))) ?_
      refine sq_plain rfl rfl rfl (w_assign rfl ev_cb) ?_
      refine sq_nil ?_
      refine awp_ret ?_
      exact retN rfl (by decide) (rv_cons (rv_tmp' rfl (by rfl)) (rv_cons (rv_tmp' rfl (by rfl)) rv_nil))
    · intro h15
      have k15 := of_decide_eq_false h15; try simp only [List.length_map] at k15
      have hs4 : ¬ 400 < s.length := by omega
      obtain ⟨W, hW⟩ : ∃ W, cutW s = W := ⟨_, rfl⟩
      have hWl : W.length ≤ 401 := by (have h9 := cutW_count s; rw [hW] at h9; omega)
      have hWs : ∀ p ∈ W, p.length ≤ 400 := fun p hp => by (have h9 := cutW_len (s := s) (w := p) (by rw [hW]; exact hp); omega)
      have hpo : parseO s = endP s (partsI W) := by (unfold parseO; rw [if_neg hs0, if_neg hs4, hW])
      refine awp_skip ?_
      refine awp_seq ?_
      refine awp_seq ?_
      refine awp_region ?_
      refine sq_plain rfl rfl rfl (w_move rfl (ev_tmp rfl)) ?_
      refine sq_plain rfl rfl rfl (w_callT 1 rfl rfl Tryz.call41 rfl (split2_spec s hs) (evl_cons (ev_tmp rfl) (evl_cons (ev_cs' (l := [59, 32]) rfl) evl_nil)) (by first | exact fun _ h => h | exact fun _ h => h.1)) ?_
      rw [hW]
      refine sq_plain rfl rfl rfl (w_llen rfl Tryz.underlying34 (ev_tmp rfl)) ?_
      refine sq_plain rfl rfl rfl (w_move rfl ev_ci) ?_
      refine sq_nil ?_
      refine awp_block ?_
      refine awp_loop_i3 [(0, _), (17, _), (18, _)] _ (fun (i : Nat) (v : Value) (q : List TOp) => i ≤ W.length ∧ partsI W = (partsI (W.drop i)).map (q ++ ·) ∧ q.length = i ∧ sizeL TOp.size q ≤ 801 * i) (fun (i : Nat) (v : Value) (q : List TOp) => [.arr v 55 4 (q.map TOp.cs)]) (fun (i : Nat) (v : Value) (q : List TOp) => [(4, AV.is v), (19, AV.int i)]) (fun (i : Nat) (v : Value) (q : List TOp) => W.length - i) (0) (v9) ([]) ?_ (le_eq (by rfl) ⟨rfl, rfl, rfl, rfl, rfl, trivial⟩) ?_
      · exact ⟨Nat.zero_le _, by simp, rfl, by simp [sizeL]⟩
      intro i v q hinv
      refine awp_seq ?_
      refine awp_region ?_
      refine sq_plain rfl rfl rfl (w_lss rfl (ev_tmp rfl) (ev_tmp rfl)) ?_
      refine sq_nil ?_
      refine awp_seq ?_
      refine awp_cond (ev_tmp rfl) ?_ ?_
      · intro h20
        have k20 := of_decide_eq_true h20; try simp only [List.length_map] at k20
        have hlt : i < W.length := by omega
        obtain ⟨x, hx⟩ := get_some hlt
        have hxl := hWs x (List.mem_of_getElem? hx)
        refine awp_skip ?_
        refine awp_seq ?_
        refine awp_block ?_
        refine awp_seq ?_
        refine awp_region ?_
        refine sq_plain rfl rfl rfl (w_idxm rfl Tryz.underlying34 Tryz.sizeOf9 (ev_tmp rfl) (ev_tmp rfl) hx (by first | omega | ((try simp only [List.length_map, List.length_take, List.length_cons, List.length_nil, chunks_len, szR] at *); omega) | (have hc2 := hc; simp only [Bool.and_eq_true, Bool.or_eq_true, Bool.or_eq_false_iff, Bool.and_eq_false_iff, Bool.not_eq_true', Bool.not_eq_false', decide_eq_true_eq, decide_eq_false_iff_not, beq_iff_eq, bne_iff_ne, List.length_map, List.length_take] at hc2; omega))) ?_
        refine sq_plain rfl rfl rfl (w_loadE1 rfl (ev_tmp rfl) Tryz.isAgg9 rfl) ?_
        refine sq_plain rfl rfl rfl (w_assign rfl (ev_tmp rfl)) ?_
        refine sq_nil ?_
        refine awp_seq ?_
        refine awp_region ?_
        refine sq_plain rfl rfl rfl (w_move rfl (ev_tmp rfl)) ?_
        refine sq_plain rfl rfl rfl (w_callT 1 rfl rfl Tryz.call41 rfl (split_spec x 32 (by omega)) (evl_cons (ev_tmp rfl) (evl_cons (ev_cs' (l := [32]) rfl) evl_nil)) (by first | exact fun _ h => h | exact fun _ h => h.1)) ?_
        refine sq_plain rfl rfl rfl (w_assign rfl (ev_tmp rfl)) ?_
        refine sq_nil ?_
        refine awp_seq ?_
        refine awp_seq ?_
        refine awp_region ?_
        refine sq_plain rfl rfl rfl (w_move rfl (ev_tmp rfl)) ?_
        refine sq_plain rfl rfl rfl (w_llen rfl Tryz.underlying34 (ev_tmp rfl)) ?_
        refine sq_plain rfl rfl rfl (w_lss rfl (ev_tmp rfl) ev_ci) ?_
        refine sq_nil ?_
        refine awp_cond (ev_tmp rfl) ?_ ?_
        · intro h27
          have k27 := of_decide_eq_true h27; try simp only [List.length_map] at k27
          have he : parseO s = ([], false) := by (rw [hpo, partsI_stop hinv.2.1 hx (by omega)]; rfl)
          rw [he]
          refine awp_seq ?_
          refine awp_region ?_
          refine sq_plain rfl rfl rfl (w_assign rfl (ev_cnil (sz := 4))) ?_
          refine sq_plain rfl rfl rfl (w_assign rfl ev_cb) ?_
          refine sq_nil ?_
          refine awp_ret ?_
          exact retN rfl (by decide) (rv_cons (rv_tmp' rfl (by rfl)) (rv_cons (rv_tmp' rfl (by rfl)) rv_nil))
        · intro h27
          have k27 := of_decide_eq_false h27; try simp only [List.length_map] at k27
          obtain ⟨y0, y1, r, hw⟩ := two_more (w := splitC 32 x) (by omega)
          have hy0 : y0.length ≤ x.length := splitC_len (c := 32) (by rw [hw]; exact List.mem_cons_self)
          have hy1 : y1.length ≤ x.length := splitC_len (c := 32) (by rw [hw]; exact List.mem_cons_of_mem _ List.mem_cons_self)
          obtain ⟨y2, hy2⟩ := get_any (y0 :: y1 :: r) 2
          have hy2l : 2 < (y0 :: y1 :: r).length → y2.length ≤ x.length := fun h9 => splitC_len (c := 32) (by rw [hw]; exact List.mem_of_getElem? (hy2 h9))
          rw [hw]
          refine awp_skip ?_
          refine awp_seq ?_
          refine awp_region_tree _ 10 (.pure 0 (.pure 1 (.pure 2 (.pure 3 (.pure 4 (.pure 5 (.pure 6 (.pure 7 (.pure 8 (.e1 9 .nil)))))))))) (by kernel_rfl) (by kernel_rfl) rfl invx_self ?_
          refine bt_plain rfl rfl rfl (fun ext => w_call rfl Tryz.call43 rfl (opWords_spec) evl_nil) ?_
          refine bt_plain rfl rfl rfl (fun ext => w_move rfl (ev_tmp rfl)) ?_
          refine bt_plain rfl rfl rfl (fun ext => w_idxm rfl Tryz.underlying34 Tryz.sizeOf9 (ev_tmp rfl) ev_ci (show (y0 :: y1 :: r)[0]? = some y0 from rfl) (by first | omega | ((try simp only [List.length_map, List.length_take, List.length_cons, List.length_nil, chunks_len, szR] at *); omega) | (have hc2 := hc; simp only [Bool.and_eq_true, Bool.or_eq_true, Bool.or_eq_false_iff, Bool.and_eq_false_iff, Bool.not_eq_true', Bool.not_eq_false', decide_eq_true_eq, decide_eq_false_iff_not, beq_iff_eq, bne_iff_ne, List.length_map, List.length_take] at hc2; omega))) ?_
          refine bt_plain rfl rfl rfl (fun ext => w_loadE1 rfl (ev_tmp rfl) Tryz.isAgg9 rfl) ?_
          refine bt_plain rfl rfl rfl (fun ext => w_call rfl Tryz.call42 rfl (indexW_spec y0) (evl_cons (ev_tmp rfl) (evl_cons (ev_tmp rfl) evl_nil))) ?_
          refine bt_plain rfl rfl rfl (fun ext => w_move rfl (ev_tmp rfl)) ?_
          refine bt_plain rfl rfl rfl (fun ext => w_idxm rfl Tryz.underlying34 Tryz.sizeOf9 (ev_tmp rfl) ev_ci (show (y0 :: y1 :: r)[1]? = some y1 from rfl) (by first | omega | ((try simp only [List.length_map, List.length_take, List.length_cons, List.length_nil, chunks_len, szR] at *); omega) | (have hc2 := hc; simp only [Bool.and_eq_true, Bool.or_eq_true, Bool.or_eq_false_iff, Bool.and_eq_false_iff, Bool.not_eq_true', Bool.not_eq_false', decide_eq_true_eq, decide_eq_false_iff_not, beq_iff_eq, bne_iff_ne, List.length_map, List.length_take] at hc2; omega))) ?_
          refine bt_plain rfl rfl rfl (fun ext => w_loadE1 rfl (ev_tmp rfl) Tryz.isAgg9 rfl) ?_
          refine bt_plain rfl rfl rfl (fun ext => w_build (places := #[(0, 1), (1, 1), (2, 1), (3, 1)]) rfl Tryz.underlying55 Tryz.zeroValue55 (fun w => by kernel_rfl) rfl (bp_cons (ev_tmp rfl) (as_ik _ _) (bp_cons (ev_tmp rfl) (as_str _) bp_nil)) rfl) ?_
          refine bt_e1 ?_
          refine eff_s rfl rfl rfl (opE_alloc rfl Tryz.zeroValue55 rfl) (fun a _ => (by first | exact invx_mk rfl | exact invx_mk (List.append_assoc _ _ _) | exact invx_all)) ?_
          intro b8 _
          refine bt_nil ?_
          refine sq_storeB0 2 rfl rfl rfl (ev_tmp rfl) (ev_tmp rfl) (as_agg _) rfl Tryz.sizeOf55 rfl ?_
          refine sq_nil ?_
          refine awp_seq ?_
          refine awp_seq ?_
          refine awp_region ?_
          refine sq_plain rfl rfl rfl (w_move rfl (ev_tmp rfl)) ?_
          refine sq_plain rfl rfl rfl (w_llen rfl Tryz.underlying34 (ev_tmp rfl)) ?_
          refine sq_plain rfl rfl rfl (w_eql rfl (ev_tmp rfl) ev_ci) ?_
          refine sq_plain rfl rfl rfl (w_move rfl (ev_tmp rfl)) ?_
          refine sq_grd rfl rfl (guard_t rfl rfl rfl) (fun hc => w_fldBn 0 rfl Tryz.underlying55 rfl Tryz.sizeOf3 (ev_tmp rfl) rfl) ?_
          refine sq_grd rfl rfl (guard_t rfl rfl rfl) (fun hc => w_loadB1 2 rfl (ev_whn rfl hc) rfl Tryz.isAgg3 rfl) ?_
          refine sq_grd rfl rfl (guard_t rfl rfl rfl) (fun hc => w_call rfl Tryz.call44 rfl (hasVal_spec _) (evl_cons (ev_whn rfl hc) evl_nil)) ?_
          refine sq_plain rfl rfl rfl (w_and rfl (ev_tmp rfl) (evif_w rfl)) ?_
          refine sq_nil ?_
          refine awp_cond (ev_tmp rfl) ?_ ?_
          · intro h44
            refine awp_region ?_
            refine sq_plain rfl rfl rfl (w_move rfl (ev_tmp rfl)) ?_
            refine sq_plain rfl rfl rfl (w_idxm rfl Tryz.underlying34 Tryz.sizeOf9 (ev_tmp rfl) ev_ci (hy2 (by have h9 := h44; simp [List.length_map] at h9 ⊢; omega)) (by first | omega | ((try simp only [List.length_map, List.length_take, List.length_cons, List.length_nil, chunks_len, szR] at *); omega) | (have hc2 := hc; simp only [Bool.and_eq_true, Bool.or_eq_true, Bool.or_eq_false_iff, Bool.and_eq_false_iff, Bool.not_eq_true', Bool.not_eq_false', decide_eq_true_eq, decide_eq_false_iff_not, beq_iff_eq, bne_iff_ne, List.length_map, List.length_take] at hc2; omega))) ?_
            refine sq_plain rfl rfl rfl (w_loadE1 rfl (ev_tmp rfl) Tryz.isAgg9 rfl) ?_
            refine sq_plain rfl rfl rfl (w_fldBn 2 rfl Tryz.underlying55 rfl Tryz.sizeOf9 (ev_tmp rfl) rfl) ?_
            refine sq_storeB1 2 rfl rfl rfl (ev_tmp rfl) (ev_tmp rfl) (as_str _) rfl Tryz.sizeOf9 rfl ?_
            refine sq_nil ?_
            refine awp_seq ?_
            refine awp_seq ?_
            refine awp_region ?_
            refine sq_plain rfl rfl rfl (w_move rfl (ev_tmp rfl)) ?_
            refine sq_plain rfl rfl rfl (w_llen rfl Tryz.underlying34 (ev_tmp rfl)) ?_
            refine sq_plain rfl rfl rfl (w_eql rfl (ev_tmp rfl) ev_ci) ?_
            refine sq_plain rfl rfl rfl (w_move rfl (ev_tmp rfl)) ?_
            refine sq_grd rfl rfl (guard_t rfl rfl rfl) (fun hc => w_fldBn 0 rfl Tryz.underlying55 rfl Tryz.sizeOf3 (ev_tmp rfl) rfl) ?_
            refine sq_grd rfl rfl (guard_t rfl rfl rfl) (fun hc => w_loadB1 2 rfl (ev_whn rfl hc) rfl Tryz.isAgg3 rfl) ?_
            refine sq_grd rfl rfl (guard_t rfl rfl rfl) (fun hc => w_call rfl Tryz.call45 rfl (hasBy_spec _) (evl_cons (ev_whn rfl hc) evl_nil)) ?_
            refine sq_plain rfl rfl rfl (w_and rfl (ev_tmp rfl) (evif_w rfl)) ?_
            refine sq_nil ?_
            refine awp_cond (ev_tmp rfl) ?_ ?_
            · intro h56
              refine awp_region ?_
              refine sq_plain rfl rfl rfl (w_move rfl (ev_tmp rfl)) ?_
              refine sq_plain rfl rfl rfl (w_idxm rfl Tryz.underlying34 Tryz.sizeOf9 (ev_tmp rfl) ev_ci (hy2 (by have h9 := h56; simp [List.length_map] at h9 ⊢; omega)) (by first | omega | ((try simp only [List.length_map, List.length_take, List.length_cons, List.length_nil, chunks_len, szR] at *); omega) | (have hc2 := hc; simp only [Bool.and_eq_true, Bool.or_eq_true, Bool.or_eq_false_iff, Bool.and_eq_false_iff, Bool.not_eq_true', Bool.not_eq_false', decide_eq_true_eq, decide_eq_false_iff_not, beq_iff_eq, bne_iff_ne, List.length_map, List.length_take] at hc2; omega))) ?_
              refine sq_plain rfl rfl rfl (w_loadE1 rfl (ev_tmp rfl) Tryz.isAgg9 rfl) ?_
              refine sq_plain rfl rfl rfl (w_callT 1 rfl rfl Tryz.call46 rfl (readInt_spec y2 (-9999) 9999 (by have h8 := hy2l (by have h9 := h56; simp [List.length_map] at h9 ⊢; omega); omega)) (evl_cons (ev_tmp rfl) (evl_cons ev_ci (evl_cons ev_ci evl_nil))) (by first | exact fun _ h => h | exact fun _ h => h.1)) ?_
              refine sq_plain rfl rfl rfl (w_move rfl (ev_tmp rfl)) ?_
              refine sq_plain rfl rfl rfl (w_extract rfl (ev_tmp rfl) rfl) ?_
              refine sq_plain rfl rfl rfl (w_extract rfl (ev_tmp rfl) rfl) ?_
              refine sq_plain rfl rfl rfl (w_fldBn 3 rfl Tryz.underlying55 rfl Tryz.sizeOf3 (ev_tmp rfl) rfl) ?_
              refine sq_storeB1 2 rfl rfl rfl (ev_tmp rfl) (ev_tmp rfl) (as_ik _ _) rfl Tryz.sizeOf3 rfl ?_
              refine sq_nil ?_
              refine awp_region ?_
              refine sq_plain rfl rfl rfl (w_move rfl (ev_tmp rfl)) ?_
              refine sq_plain rfl rfl rfl (w_loadA 2 rfl (ev_tmp rfl) rfl Tryz.isAgg55 Tryz.sizeOf55 rfl) ?_
              refine sq_plain rfl rfl rfl (w_bslice rfl Tryz.underlying24 Tryz.sizeOf55 Tryz.zeroValue55 rfl rfl rfl rfl (bp_cons (ev_tmp rfl) (as_agg _) bp_nil) rfl rfl) ?_
              refine sq_append (by' := 48) 0 rfl rfl rfl rfl Tryz.underlying24 Tryz.type55 rfl rfl rfl rfl rfl rfl (ev_tmp rfl) (ev_tmp rfl) rfl (by first | omega | ((try simp only [List.length_map, List.length_take, List.length_cons, List.length_nil, chunks_len, szR] at *); omega) | (have hc2 := hc; simp only [Bool.and_eq_true, Bool.or_eq_true, Bool.or_eq_false_iff, Bool.and_eq_false_iff, Bool.not_eq_true', Bool.not_eq_false', decide_eq_true_eq, decide_eq_false_iff_not, beq_iff_eq, bne_iff_ne, List.length_map, List.length_take] at hc2; omega)) ?_
              intro v68_1
              refine sq_plain rfl rfl rfl (w_assign rfl (ev_tmp rfl)) ?_
              refine sq_nil ?_
              refine awp_region ?_
              refine sq_plain rfl rfl rfl (w_addi rfl (ev_tmp rfl) ev_ci (by first | omega | ((try simp only [List.length_map, List.length_take, List.length_cons, List.length_nil, chunks_len, szR] at *); omega) | (have hc2 := hc; simp only [Bool.and_eq_true, Bool.or_eq_true, Bool.or_eq_false_iff, Bool.and_eq_false_iff, Bool.not_eq_true', Bool.not_eq_false', decide_eq_true_eq, decide_eq_false_iff_not, beq_iff_eq, bne_iff_ne, List.length_map, List.length_take] at hc2; omega))) ?_
              refine sq_plain rfl rfl rfl (w_move rfl (ev_tmp rfl)) ?_
              refine sq_nil ?_
              refine round_end3 i v q (i + 1) (v68_1) (q ++ [opOf (splitC 32 x)]) ?_ ?_ (Le.trans (le_pick [2, 0] rfl) (le_dropeq 1 (by exact congrArg (fun z => Own.arr _ 55 4 z :: _) (by rw [List.map_append]; exact congrArg (fun z => _ ++ [z]) (by first | exact ((opOf_cs hw hy2).trans (by rw [if_pos (cnd_t h44), if_pos (cnd_t h56)]; first | done | rfl)).symm | exact ((opOf_cs hw hy2).trans (by rw [if_pos (cnd_t h44), if_neg (cnd_f h56)]; first | done | rfl)).symm | exact ((opOf_cs hw hy2).trans (by rw [if_neg (cnd_f h44), if_pos (cnd_t h56)]; first | done | rfl)).symm | exact ((opOf_cs hw hy2).trans (by rw [if_neg (cnd_f h44), if_neg (cnd_f h56)]; first | done | rfl)).symm))) ⟨rfl, rfl, rfl, rfl, rfl, trivial⟩))
              · exact ⟨by omega, partsI_step hinv.2.1 hx (by omega), by rw [List.length_append, hinv.2.2.1]; rfl, snoc_sz hinv.2.2.2 (by have h9 := opOf_size (w := splitC 32 x) (m := 400) (fun p hp => by have h8 := splitC_len hp; omega); omega)⟩
              · omega
            · intro h56
              refine awp_skip ?_
              refine awp_region ?_
              refine sq_plain rfl rfl rfl (w_move rfl (ev_tmp rfl)) ?_
              refine sq_plain rfl rfl rfl (w_loadA 2 rfl (ev_tmp rfl) rfl Tryz.isAgg55 Tryz.sizeOf55 rfl) ?_
              refine sq_plain rfl rfl rfl (w_bslice rfl Tryz.underlying24 Tryz.sizeOf55 Tryz.zeroValue55 rfl rfl rfl rfl (bp_cons (ev_tmp rfl) (as_agg _) bp_nil) rfl rfl) ?_
              refine sq_append (by' := 48) 0 rfl rfl rfl rfl Tryz.underlying24 Tryz.type55 rfl rfl rfl rfl rfl rfl (ev_tmp rfl) (ev_tmp rfl) rfl (by first | omega | ((try simp only [List.length_map, List.length_take, List.length_cons, List.length_nil, chunks_len, szR] at *); omega) | (have hc2 := hc; simp only [Bool.and_eq_true, Bool.or_eq_true, Bool.or_eq_false_iff, Bool.and_eq_false_iff, Bool.not_eq_true', Bool.not_eq_false', decide_eq_true_eq, decide_eq_false_iff_not, beq_iff_eq, bne_iff_ne, List.length_map, List.length_take] at hc2; omega)) ?_
              intro v68_2
              refine sq_plain rfl rfl rfl (w_assign rfl (ev_tmp rfl)) ?_
              refine sq_nil ?_
              refine awp_region ?_
              refine sq_plain rfl rfl rfl (w_addi rfl (ev_tmp rfl) ev_ci (by first | omega | ((try simp only [List.length_map, List.length_take, List.length_cons, List.length_nil, chunks_len, szR] at *); omega) | (have hc2 := hc; simp only [Bool.and_eq_true, Bool.or_eq_true, Bool.or_eq_false_iff, Bool.and_eq_false_iff, Bool.not_eq_true', Bool.not_eq_false', decide_eq_true_eq, decide_eq_false_iff_not, beq_iff_eq, bne_iff_ne, List.length_map, List.length_take] at hc2; omega))) ?_
              refine sq_plain rfl rfl rfl (w_move rfl (ev_tmp rfl)) ?_
              refine sq_nil ?_
              refine round_end3 i v q (i + 1) (v68_2) (q ++ [opOf (splitC 32 x)]) ?_ ?_ (Le.trans (le_pick [2, 0] rfl) (le_dropeq 1 (by exact congrArg (fun z => Own.arr _ 55 4 z :: _) (by rw [List.map_append]; exact congrArg (fun z => _ ++ [z]) (by first | exact ((opOf_cs hw hy2).trans (by rw [if_pos (cnd_t h44), if_pos (cnd_t h56)]; first | done | rfl)).symm | exact ((opOf_cs hw hy2).trans (by rw [if_pos (cnd_t h44), if_neg (cnd_f h56)]; first | done | rfl)).symm | exact ((opOf_cs hw hy2).trans (by rw [if_neg (cnd_f h44), if_pos (cnd_t h56)]; first | done | rfl)).symm | exact ((opOf_cs hw hy2).trans (by rw [if_neg (cnd_f h44), if_neg (cnd_f h56)]; first | done | rfl)).symm))) ⟨rfl, rfl, rfl, rfl, rfl, trivial⟩))
              · exact ⟨by omega, partsI_step hinv.2.1 hx (by omega), by rw [List.length_append, hinv.2.2.1]; rfl, snoc_sz hinv.2.2.2 (by have h9 := opOf_size (w := splitC 32 x) (m := 400) (fun p hp => by have h8 := splitC_len hp; omega); omega)⟩
              · omega
          · intro h44
            refine awp_skip ?_
            refine awp_seq ?_
            refine awp_seq ?_
            refine awp_region ?_
            refine sq_plain rfl rfl rfl (w_move rfl (ev_tmp rfl)) ?_
            refine sq_plain rfl rfl rfl (w_llen rfl Tryz.underlying34 (ev_tmp rfl)) ?_
            refine sq_plain rfl rfl rfl (w_eql rfl (ev_tmp rfl) ev_ci) ?_
            refine sq_plain rfl rfl rfl (w_move rfl (ev_tmp rfl)) ?_
            refine sq_grd rfl rfl (guard_t rfl rfl rfl) (fun hc => w_fldBn 0 rfl Tryz.underlying55 rfl Tryz.sizeOf3 (ev_tmp rfl) rfl) ?_
            refine sq_grd rfl rfl (guard_t rfl rfl rfl) (fun hc => w_loadB1 2 rfl (ev_whn rfl hc) rfl Tryz.isAgg3 rfl) ?_
            refine sq_grd rfl rfl (guard_t rfl rfl rfl) (fun hc => w_call rfl Tryz.call45 rfl (hasBy_spec _) (evl_cons (ev_whn rfl hc) evl_nil)) ?_
            refine sq_plain rfl rfl rfl (w_and rfl (ev_tmp rfl) (evif_w rfl)) ?_
            refine sq_nil ?_
            refine awp_cond (ev_tmp rfl) ?_ ?_
            · intro h56
              refine awp_region ?_
              refine sq_plain rfl rfl rfl (w_move rfl (ev_tmp rfl)) ?_
              refine sq_plain rfl rfl rfl (w_idxm rfl Tryz.underlying34 Tryz.sizeOf9 (ev_tmp rfl) ev_ci (hy2 (by have h9 := h56; simp [List.length_map] at h9 ⊢; omega)) (by first | omega | ((try simp only [List.length_map, List.length_take, List.length_cons, List.length_nil, chunks_len, szR] at *); omega) | (have hc2 := hc; simp only [Bool.and_eq_true, Bool.or_eq_true, Bool.or_eq_false_iff, Bool.and_eq_false_iff, Bool.not_eq_true', Bool.not_eq_false', decide_eq_true_eq, decide_eq_false_iff_not, beq_iff_eq, bne_iff_ne, List.length_map, List.length_take] at hc2; omega))) ?_
              refine sq_plain rfl rfl rfl (w_loadE1 rfl (ev_tmp rfl) Tryz.isAgg9 rfl) ?_
              refine sq_plain rfl rfl rfl (w_callT 1 rfl rfl Tryz.call46 rfl (readInt_spec y2 (-9999) 9999 (by have h8 := hy2l (by have h9 := h56; simp [List.length_map] at h9 ⊢; omega); omega)) (evl_cons (ev_tmp rfl) (evl_cons ev_ci (evl_cons ev_ci evl_nil))) (by first | exact fun _ h => h | exact fun _ h => h.1)) ?_
              refine sq_plain rfl rfl rfl (w_move rfl (ev_tmp rfl)) ?_
              refine sq_plain rfl rfl rfl (w_extract rfl (ev_tmp rfl) rfl) ?_
              refine sq_plain rfl rfl rfl (w_extract rfl (ev_tmp rfl) rfl) ?_
              refine sq_plain rfl rfl rfl (w_fldBn 3 rfl Tryz.underlying55 rfl Tryz.sizeOf3 (ev_tmp rfl) rfl) ?_
              refine sq_storeB1 2 rfl rfl rfl (ev_tmp rfl) (ev_tmp rfl) (as_ik _ _) rfl Tryz.sizeOf3 rfl ?_
              refine sq_nil ?_
              refine awp_region ?_
              refine sq_plain rfl rfl rfl (w_move rfl (ev_tmp rfl)) ?_
              refine sq_plain rfl rfl rfl (w_loadA 2 rfl (ev_tmp rfl) rfl Tryz.isAgg55 Tryz.sizeOf55 rfl) ?_
              refine sq_plain rfl rfl rfl (w_bslice rfl Tryz.underlying24 Tryz.sizeOf55 Tryz.zeroValue55 rfl rfl rfl rfl (bp_cons (ev_tmp rfl) (as_agg _) bp_nil) rfl rfl) ?_
              refine sq_append (by' := 48) 0 rfl rfl rfl rfl Tryz.underlying24 Tryz.type55 rfl rfl rfl rfl rfl rfl (ev_tmp rfl) (ev_tmp rfl) rfl (by first | omega | ((try simp only [List.length_map, List.length_take, List.length_cons, List.length_nil, chunks_len, szR] at *); omega) | (have hc2 := hc; simp only [Bool.and_eq_true, Bool.or_eq_true, Bool.or_eq_false_iff, Bool.and_eq_false_iff, Bool.not_eq_true', Bool.not_eq_false', decide_eq_true_eq, decide_eq_false_iff_not, beq_iff_eq, bne_iff_ne, List.length_map, List.length_take] at hc2; omega)) ?_
              intro v68_3
              refine sq_plain rfl rfl rfl (w_assign rfl (ev_tmp rfl)) ?_
              refine sq_nil ?_
              refine awp_region ?_
              refine sq_plain rfl rfl rfl (w_addi rfl (ev_tmp rfl) ev_ci (by first | omega | ((try simp only [List.length_map, List.length_take, List.length_cons, List.length_nil, chunks_len, szR] at *); omega) | (have hc2 := hc; simp only [Bool.and_eq_true, Bool.or_eq_true, Bool.or_eq_false_iff, Bool.and_eq_false_iff, Bool.not_eq_true', Bool.not_eq_false', decide_eq_true_eq, decide_eq_false_iff_not, beq_iff_eq, bne_iff_ne, List.length_map, List.length_take] at hc2; omega))) ?_
              refine sq_plain rfl rfl rfl (w_move rfl (ev_tmp rfl)) ?_
              refine sq_nil ?_
              refine round_end3 i v q (i + 1) (v68_3) (q ++ [opOf (splitC 32 x)]) ?_ ?_ (Le.trans (le_pick [2, 0] rfl) (le_dropeq 1 (by exact congrArg (fun z => Own.arr _ 55 4 z :: _) (by rw [List.map_append]; exact congrArg (fun z => _ ++ [z]) (by first | exact ((opOf_cs hw hy2).trans (by rw [if_pos (cnd_t h44), if_pos (cnd_t h56)]; first | done | rfl)).symm | exact ((opOf_cs hw hy2).trans (by rw [if_pos (cnd_t h44), if_neg (cnd_f h56)]; first | done | rfl)).symm | exact ((opOf_cs hw hy2).trans (by rw [if_neg (cnd_f h44), if_pos (cnd_t h56)]; first | done | rfl)).symm | exact ((opOf_cs hw hy2).trans (by rw [if_neg (cnd_f h44), if_neg (cnd_f h56)]; first | done | rfl)).symm))) ⟨rfl, rfl, rfl, rfl, rfl, trivial⟩))
              · exact ⟨by omega, partsI_step hinv.2.1 hx (by omega), by rw [List.length_append, hinv.2.2.1]; rfl, snoc_sz hinv.2.2.2 (by have h9 := opOf_size (w := splitC 32 x) (m := 400) (fun p hp => by have h8 := splitC_len hp; omega); omega)⟩
              · omega
            · intro h56
              refine awp_skip ?_
              refine awp_region ?_
              refine sq_plain rfl rfl rfl (w_move rfl (ev_tmp rfl)) ?_
              refine sq_plain rfl rfl rfl (w_loadA 2 rfl (ev_tmp rfl) rfl Tryz.isAgg55 Tryz.sizeOf55 rfl) ?_
              refine sq_plain rfl rfl rfl (w_bslice rfl Tryz.underlying24 Tryz.sizeOf55 Tryz.zeroValue55 rfl rfl rfl rfl (bp_cons (ev_tmp rfl) (as_agg _) bp_nil) rfl rfl) ?_
              refine sq_append (by' := 48) 0 rfl rfl rfl rfl Tryz.underlying24 Tryz.type55 rfl rfl rfl rfl rfl rfl (ev_tmp rfl) (ev_tmp rfl) rfl (by first | omega | ((try simp only [List.length_map, List.length_take, List.length_cons, List.length_nil, chunks_len, szR] at *); omega) | (have hc2 := hc; simp only [Bool.and_eq_true, Bool.or_eq_true, Bool.or_eq_false_iff, Bool.and_eq_false_iff, Bool.not_eq_true', Bool.not_eq_false', decide_eq_true_eq, decide_eq_false_iff_not, beq_iff_eq, bne_iff_ne, List.length_map, List.length_take] at hc2; omega)) ?_
              intro v68_4
              refine sq_plain rfl rfl rfl (w_assign rfl (ev_tmp rfl)) ?_
              refine sq_nil ?_
              refine awp_region ?_
              refine sq_plain rfl rfl rfl (w_addi rfl (ev_tmp rfl) ev_ci (by first | omega | ((try simp only [List.length_map, List.length_take, List.length_cons, List.length_nil, chunks_len, szR] at *); omega) | (have hc2 := hc; simp only [Bool.and_eq_true, Bool.or_eq_true, Bool.or_eq_false_iff, Bool.and_eq_false_iff, Bool.not_eq_true', Bool.not_eq_false', decide_eq_true_eq, decide_eq_false_iff_not, beq_iff_eq, bne_iff_ne, List.length_map, List.length_take] at hc2; omega))) ?_
              refine sq_plain rfl rfl rfl (w_move rfl (ev_tmp rfl)) ?_
              refine sq_nil ?_
              refine round_end3 i v q (i + 1) (v68_4) (q ++ [opOf (splitC 32 x)]) ?_ ?_ (Le.trans (le_pick [2, 0] rfl) (le_dropeq 1 (by exact congrArg (fun z => Own.arr _ 55 4 z :: _) (by rw [List.map_append]; exact congrArg (fun z => _ ++ [z]) (by first | exact ((opOf_cs hw hy2).trans (by rw [if_pos (cnd_t h44), if_pos (cnd_t h56)]; first | done | rfl)).symm | exact ((opOf_cs hw hy2).trans (by rw [if_pos (cnd_t h44), if_neg (cnd_f h56)]; first | done | rfl)).symm | exact ((opOf_cs hw hy2).trans (by rw [if_neg (cnd_f h44), if_pos (cnd_t h56)]; first | done | rfl)).symm | exact ((opOf_cs hw hy2).trans (by rw [if_neg (cnd_f h44), if_neg (cnd_f h56)]; first | done | rfl)).symm))) ⟨rfl, rfl, rfl, rfl, rfl, trivial⟩))
              · exact ⟨by omega, partsI_step hinv.2.1 hx (by omega), by rw [List.length_append, hinv.2.2.1]; rfl, snoc_sz hinv.2.2.2 (by have h9 := opOf_size (w := splitC 32 x) (m := 400) (fun p hp => by have h8 := splitC_len hp; omega); omega)⟩
              · omega
      · intro h20
        have k20 := of_decide_eq_false h20; try simp only [List.length_map] at k20
        have hpe := partsI_end hinv.2.1 (show W.length ≤ i by omega)
        rw [hpe] at hpo
        have hpq : parseO s = endO s q := hpo
        have hqs : sizeL TOp.size q ≤ 1048576 := by omega
        refine awp_exit ?_
        refine awp_seq ?_
        refine awp_seq ?_
        refine awp_region ?_
        refine sq_plain rfl rfl rfl (w_move rfl (ev_tmp rfl)) ?_
        refine sq_plain rfl rfl rfl (w_callB rfl Tryz.call37 rfl (goodOps_spec _ (by first | assumption | omega)) (flat_bool _) (evlb_cons (evb_arr 0 (ev_tmp rfl) rfl) evlb_nil)) ?_
        refine sq_plain rfl rfl rfl (w_not rfl (ev_tmp rfl)) ?_
        refine sq_plain rfl rfl rfl (w_move rfl (ev_tmp rfl)) ?_
        refine sq_grd rfl rfl (guard_f rfl rfl rfl) (fun hc => w_move rfl (ev_tmp rfl)) ?_
        refine sq_grd rfl rfl (guard_f rfl rfl rfl) (fun hc => w_callB rfl Tryz.call38 rfl (opsText_spec q (by first | (simpa using hc) | (rw [Bool.not_eq_false'] at hc; exact hc))) (flat_str _) (evlb_cons (evb_wt 1 rfl (by first | exact fun _ h => h | exact fun _ h => h.1) (evb_arr 0 (ev_whn rfl hc) rfl)) evlb_nil)) ?_
        refine sq_grd rfl rfl (guard_f rfl rfl rfl) (fun hc => w_move rfl (ev_tmp rfl)) ?_
        refine sq_grd rfl rfl (guard_f rfl rfl rfl) (fun hc => w_sneq rfl (ev_whn rfl hc) (ev_whn rfl hc)) ?_
        refine sq_plain rfl rfl rfl (w_or rfl (ev_tmp rfl) (evif_w rfl)) ?_
        refine sq_nil ?_
        refine awp_cond (ev_tmp rfl) ?_ ?_
        · intro h78
          have he : parseO s = ([], false) := hpq.trans (if_pos h78)
          rw [he]
          refine awp_seq ?_
          refine awp_region ?_
          refine sq_plain rfl rfl rfl (w_assign rfl (ev_cnil (sz := 4))) ?_
          refine sq_plain rfl rfl rfl (w_assign rfl ev_cb) ?_
          refine sq_nil ?_
          refine awp_ret ?_
          exact retN rfl (by decide) (rv_cons (rv_tmp' rfl (by rfl)) (rv_cons (rv_tmp' rfl (by rfl)) rv_nil))
        · intro h78
          have he : parseO s = (q, true) := hpq.trans (if_neg (by rw [h78]; decide))
          rw [he]
          refine awp_skip ?_
          refine awp_seq ?_
          refine awp_region ?_
          refine sq_plain rfl rfl rfl (w_move rfl (ev_tmp rfl)) ?_
          refine sq_plain rfl rfl rfl (w_assign rfl (ev_tmp rfl)) ?_
          refine sq_plain rfl rfl rfl (w_assign rfl ev_cb) ?_
          refine sq_nil ?_
          refine awp_ret ?_
          refine ret_seal 0 2 rfl rfl ?_
          exact retN rfl (by decide) (rv_cons (rv_tmp' rfl (by rfl)) (rv_cons (rv_tmp' rfl (by rfl)) rv_nil))
end Go.Proofs.YtmlmmgeadombbaaGreatDoor

set_option linter.unusedVariables false
set_option linter.unusedSimpArgs false
set_option maxRecDepth 100000
set_option maxHeartbeats 1000000
namespace Go.M
open Go.AV
theorem three_of {l : List Str} (h : l.length = 3) : ∃ a b k, l = [a, b, k] := by
  match l, h with
  | [a, b, k], _ => exact ⟨a, b, k, rfl⟩
theorem two_of {l : List Str} (h : l.length = 2) : ∃ a b, l = [a, b] := by
  match l, h with
  | [a, b], _ => exact ⟨a, b, rfl⟩
theorem get2 {l : List Str} (h : l.length = 3) : l[2]? = some ((l[2]?).getD []) := by
  obtain ⟨a, b, k, rfl⟩ := three_of h; rfl
theorem parseF_not {s : Str} (h : (splitC 32 s).length ≠ 3) : parseF s = (emptyF, false) := by
  unfold parseF
  split
  · rename_i e; rw [e] at h; exact absurd rfl h
  · rfl
theorem parseF_three {s a b k : Str} (h : splitC 32 s = [a, b, k]) : parseF s = parse3 s a b k := by unfold parseF; rw [h]
theorem parseFS_not {s : Str} (h : (splitC 32 s).length ≠ 3) : parseFS s = (emptyF, false) := by
  unfold parseFS
  split
  · rename_i e; rw [e] at h; exact absurd rfl h
  · rfl
theorem parseFS_three {s a b k : Str} (h : splitC 32 s = [a, b, k]) : parseFS s = if k.length < 2 then (emptyF, false) else parse3S s a b k := by unfold parseFS; rw [h]
theorem itemS_two {a b k x y : Str} (h : splitC 61 k = [x, y]) : itemS a b k = ⟨l1R a, l1R b, x, y, false⟩ := by unfold itemS; rw [h]
theorem itemS_not {a b k : Str} (h : (splitC 61 k).length ≠ 2) : itemS a b k = ⟨l1R a, l1R b, k.take (k.length - 1), [], true⟩ := by
  unfold itemS
  split
  · rename_i e; rw [e] at h; exact absurd rfl h
  · rfl
theorem splitC_sum {c : UInt8} : ∀ s : Str, ((splitC c s).map List.length).sum ≤ s.length
  | [] => by simp [splitC]
  | b :: s => by
    have ih := splitC_sum (c := c) s
    rw [splitC_cons]
    split
    · simp; omega
    · cases hs : splitC c s with
      | nil => exact absurd hs (splitC_ne c s)
      | cons w ws =>
        rw [hs] at ih
        simp [addP] at ih ⊢
        omega
theorem split2_len {c : UInt8} {k x y : Str} (h : splitC c k = [x, y]) : x.length + y.length ≤ k.length := by
  have h1 := splitC_sum (c := c) k
  rw [h] at h1
  simp at h1
  omega
end Go.M
namespace Go.Proofs.YtmlmmgeadombbaaGreatDoor
open Go Go.AV Go.M
attribute [local irreducible] OpW OpA OpS AWP FSpec ESpec GSpec OpE RetOk RetOkG RvDen Le Ev GuardIs SrcIs Int.tmod Int.tdiv IntKind.wrap
end Go.Proofs.YtmlmmgeadombbaaGreatDoor

set_option linter.unusedVariables false
set_option linter.unusedSimpArgs false
namespace Go.M
/-- The bytes of a number: seven bits each, the least first; the last one is below 128. -/
def numB (n : Nat) : Str := if h : 128 ≤ n then UInt8.ofNat (n % 128 + 128) :: numB (n / 128) else [UInt8.ofNat n]
termination_by n
decreasing_by omega
theorem numB_small {n : Nat} (h : n < 128) : numB n = [UInt8.ofNat n] := by rw [numB, dif_neg (by omega)]
theorem numB_big {n : Nat} (h : 128 ≤ n) : numB n = UInt8.ofNat (n % 128 + 128) :: numB (n / 128) := by rw [numB, dif_pos h]
theorem u8_nat {n : Nat} (h : n < 256) : (UInt8.ofNat n).toNat = n := by rw [UInt8.toNat_ofNat']; exact Nat.mod_eq_of_lt h
/-- The bytes up to the first one below 128. -/
def vpre : Str → Option Str
  | [] => none
  | b :: s => if b.toNat < 128 then some [b] else (vpre s).map (b :: ·)
def vval : Str → Nat
  | [] => 0
  | b :: s => b.toNat % 128 + 128 * vval s
/-- A number at the front of bytes, and how many bytes it has. -/
def numP (s : Str) : Option (Nat × Nat) := match vpre s with
  | none => none
  | some p => if vval p ≤ 1000000000 ∧ numB (vval p) = p then some (vval p, p.length) else none
def Cont (s : Str) : Prop := ∀ b ∈ s, 128 ≤ b.toNat
theorem vpre_cont : ∀ {p : Str} {s : Str}, Cont p → vpre (p ++ s) = (vpre s).map (p ++ ·)
  | [], s, _ => by rw [List.nil_append]; cases vpre s <;> rfl
  | b :: p, s, h => by
    have hb := h b List.mem_cons_self
    show (if b.toNat < 128 then some [b] else (vpre (p ++ s)).map (b :: ·)) = _
    rw [if_neg (by omega), vpre_cont fun c hc => h c (List.mem_cons_of_mem _ hc), Option.map_map]
    rfl
theorem vpre_stop {p : Str} {b : UInt8} {s : Str} (h : Cont p) (hb : b.toNat < 128) : vpre (p ++ b :: s) = some (p ++ [b]) := by
  rw [vpre_cont h]
  show ((if b.toNat < 128 then some [b] else (vpre s).map (b :: ·)).map (p ++ ·)) = _
  rw [if_pos hb]; rfl
theorem vpre_none {p : Str} (h : Cont p) : vpre p = none := by
  have := vpre_cont (s := []) h
  rw [List.append_nil] at this; exact this
theorem vval_app : ∀ (p s : Str), vval (p ++ s) = vval p + 128 ^ p.length * vval s
  | [], s => by simp [vval]
  | b :: p, s => by
    show b.toNat % 128 + 128 * vval (p ++ s) = b.toNat % 128 + 128 * vval p + 128 ^ (p.length + 1) * vval s
    rw [vval_app p s, Nat.mul_add, Nat.pow_succ, ← Nat.mul_assoc, Nat.mul_comm (128 ^ p.length) 128]; omega
theorem vval_snoc (p : Str) (b : UInt8) : vval (p ++ [b]) = vval p + b.toNat % 128 * 128 ^ p.length := by
  rw [vval_app]; show vval p + 128 ^ p.length * (b.toNat % 128 + 128 * 0) = _; rw [Nat.mul_zero, Nat.add_zero, Nat.mul_comm]
theorem numB_form (n : Nat) : ∃ (p : Str) (b : UInt8), numB n = p ++ [b] ∧ Cont p ∧ b.toNat < 128 := by
  induction n using Nat.strongRecOn with
  | _ n ih =>
    rcases Nat.lt_or_ge n 128 with h | h
    · exact ⟨[], _, numB_small h, fun b hb => by simp at hb, by rw [u8_nat (by omega)]; exact h⟩
    · obtain ⟨p, b, h1, h2, h3⟩ := ih (n / 128) (by omega)
      refine ⟨UInt8.ofNat (n % 128 + 128) :: p, b, by rw [numB_big h, h1]; rfl, fun c hc => ?_, h3⟩
      rcases List.mem_cons.1 hc with rfl | hc
      · rw [u8_nat (by omega)]; omega
      · exact h2 c hc
theorem vpre_numB (n : Nat) (s : Str) : vpre (numB n ++ s) = some (numB n) := by
  obtain ⟨p, b, h1, h2, h3⟩ := numB_form n
  rw [h1, List.append_assoc]
  exact vpre_stop h2 h3
theorem vval_numB (n : Nat) : vval (numB n) = n := by
  induction n using Nat.strongRecOn with
  | _ n ih =>
    rcases Nat.lt_or_ge n 128 with h | h
    · rw [numB_small h]; show (UInt8.ofNat n).toNat % 128 + 128 * 0 = n; rw [u8_nat (by omega)]; omega
    · rw [numB_big h]
      show (UInt8.ofNat (n % 128 + 128)).toNat % 128 + 128 * vval (numB (n / 128)) = n
      rw [u8_nat (by omega), ih (n / 128) (by omega)]; omega
theorem numB_pos (n : Nat) : 1 ≤ (numB n).length := by
  obtain ⟨p, b, h1, _⟩ := numB_form n
  rw [h1]; simp
theorem numB_len {k : Nat} : ∀ {n : Nat}, n < 128 ^ k → 1 ≤ k → (numB n).length ≤ k := by
  induction k with
  | zero => intro n _ h; omega
  | succ k ih =>
    intro n h _
    rcases Nat.lt_or_ge n 128 with h1 | h1
    · rw [numB_small h1]; simp
    · rw [numB_big h1, List.length_cons]
      have hk : 1 ≤ k := by
        rcases Nat.eq_zero_or_pos k with h0 | h0
        · subst h0; simp at h; omega
        · exact h0
      have := ih (n := n / 128) (by rw [Nat.pow_succ] at h; omega) hk
      omega
theorem numB_len5 {n : Nat} (h : n ≤ 1000000000) : (numB n).length ≤ 5 := numB_len (k := 5) (by omega) (by decide)
theorem numP_numB {n : Nat} (h : n ≤ 1000000000) (s : Str) : numP (numB n ++ s) = some (n, (numB n).length) := by
  unfold numP
  rw [vpre_numB]
  simp only [vval_numB]
  rw [if_pos ⟨h, trivial⟩]
theorem vpre_split : ∀ {s p : Str}, vpre s = some p → ∃ q b t, p = q ++ [b] ∧ s = p ++ t ∧ Cont q ∧ b.toNat < 128
  | [], p, h => by cases h
  | c :: s, p, h => by
    unfold vpre at h
    split at h
    · rename_i hc
      injection h with h; subst h
      exact ⟨[], c, s, rfl, rfl, fun b hb => by simp at hb, hc⟩
    · rename_i hc
      cases hs : vpre s with
      | none => rw [hs] at h; cases h
      | some p' =>
        rw [hs] at h
        injection h with h; subst h
        obtain ⟨q, b, t, h1, h2, h3, h4⟩ := vpre_split hs
        refine ⟨c :: q, b, t, by rw [h1]; rfl, by rw [h2]; rfl, fun x hx => ?_, h4⟩
        rcases List.mem_cons.1 hx with rfl | hx
        · omega
        · exact h3 x hx
theorem numP_some {s : Str} {n k : Nat} (h : numP s = some (n, k)) : n ≤ 1000000000 ∧ k = (numB n).length ∧ ∃ t, s = numB n ++ t := by
  unfold numP at h
  cases hs : vpre s with
  | none => rw [hs] at h; cases h
  | some p =>
    rw [hs] at h
    simp only at h
    split at h
    · rename_i hh
      injection h with h
      injection h with h1 h2
      obtain ⟨q, b, t, g1, g2, _⟩ := vpre_split hs
      subst h1
      exact ⟨hh.1, by rw [hh.2, h2], t, by rw [hh.2]; exact g2⟩
    · cases h
theorem numP_len {s : Str} {n k : Nat} (h : numP s = some (n, k)) : k ≤ s.length ∧ 1 ≤ k ∧ k ≤ 5 := by
  obtain ⟨h1, h2, t, h3⟩ := numP_some h
  have := numB_pos n
  have := numB_len5 h1
  rw [h3, List.length_append]; omega
/-- While all bytes read go on: no number if the bytes end, if the value is too great, or if there are more than five. -/
theorem numP_end {p : Str} (h : Cont p) : numP p = none := by unfold numP; rw [vpre_none h]
theorem numP_stop {p : Str} {b : UInt8} {s : Str} (h : Cont p) (hb : b.toNat < 128) : numP (p ++ b :: s) = if vval (p ++ [b]) ≤ 1000000000 ∧ numB (vval (p ++ [b])) = p ++ [b] then some (vval (p ++ [b]), p.length + 1) else none := by
  unfold numP; rw [vpre_stop h hb]
  simp only [List.length_append, List.length_cons, List.length_nil, Nat.zero_add]
theorem numP_great {p : Str} {s : Str} (h : Cont p) (hv : 1000000000 < vval p) : numP (p ++ s) = none := by
  unfold numP
  rw [vpre_cont h]
  cases vpre s with
  | none => rfl
  | some q =>
    simp only [Option.map_some]
    rw [if_neg]
    intro hc
    have := hc.1
    rw [vval_app] at this
    omega
theorem numP_long {p : Str} {s : Str} (h : Cont p) (hl : 5 ≤ p.length) : numP (p ++ s) = none := by
  unfold numP
  rw [vpre_cont h]
  cases hs : vpre s with
  | none => rfl
  | some q =>
    simp only [Option.map_some]
    rw [if_neg]
    intro hc
    obtain ⟨q', b, t, h1, _⟩ := vpre_split hs
    have h2 := numB_len5 hc.1
    rw [hc.2, h1] at h2
    simp only [List.length_append, List.length_cons, List.length_nil] at h2
    omega
theorem cont_ne {p : Str} (h : Cont p) (n : Nat) : numB n ≠ p := by
  intro hc
  obtain ⟨q, b, h1, _, h3⟩ := numB_form n
  have := h b (by rw [← hc, h1]; simp)
  omega
theorem cont_snoc {p : Str} {b : UInt8} (h : Cont p) (hb : 128 ≤ b.toNat) : Cont (p ++ [b]) := fun c hc => by
  rcases List.mem_append.1 hc with hc | hc
  · exact h c hc
  · rw [List.mem_singleton.1 hc]; exact hb
/-! ### A reader: where it is, whether it failed -/
structure TSrc where
  at' : Nat
  bad : Bool
open Go.AV in
def srcC (b : Str) (s : TSrc) : List AV := [AV.str b, AV.int s.at', AV.bool s.bad]
def numA (b : Str) (s : TSrc) : Option (Nat × Nat) := if s.bad = true then none else numP (b.drop s.at')
/-- What a reader of numbers leaves. -/
def NumOk (b : Str) (s : TSrc) (x : TSrc × Nat) : Prop := (s.at' ≤ x.1.at' ∧ x.1.at' ≤ b.length) ∧ x.2 ≤ 1000000000 ∧ match numA b s with
  | some (n, k) => x = (⟨s.at' + k, false⟩, n)
  | none => x.1.bad = true ∧ x.2 = 0
/-- A text at the front of bytes. -/
def textP (s : Str) : Option (Str × Nat) := match numP s with
  | none => none
  | some (n, k) => if n ≤ 60 ∧ k + n ≤ s.length then some ((s.drop k).take n, k + n) else none
def textA (b : Str) (s : TSrc) : Option (Str × Nat) := if s.bad = true then none else textP (b.drop s.at')
def TextOk (b : Str) (s : TSrc) (x : TSrc × Str) : Prop := (s.at' ≤ x.1.at' ∧ x.1.at' ≤ b.length) ∧ x.2.length ≤ 60 ∧ match textA b s with
  | some (t, k) => x = (⟨s.at' + k, false⟩, t)
  | none => x.1.bad = true ∧ x.2 = []
def textB (s : Str) : Str := numB s.length ++ s
theorem textP_textB {t : Str} (h : t.length ≤ 60) (s : Str) : textP (textB t ++ s) = some (t, (textB t).length) := by
  unfold textP textB
  rw [List.append_assoc, numP_numB (by omega)]
  simp only [List.length_append]
  rw [if_pos ⟨h, by omega⟩, List.drop_left, List.take_left]
theorem textP_some {s t : Str} {k : Nat} (h : textP s = some (t, k)) : t.length ≤ 60 ∧ k = (textB t).length ∧ k ≤ s.length ∧ ∃ r, s = textB t ++ r := by
  unfold textP at h
  cases hn : numP s with
  | none => rw [hn] at h; cases h
  | some x =>
    obtain ⟨n, j⟩ := x
    rw [hn] at h
    simp only at h
    split at h
    · rename_i hh
      injection h with h
      injection h with h1 h2
      obtain ⟨g1, g2, r, g3⟩ := numP_some hn
      have hd : s.drop j = r := by rw [g3, g2, List.drop_left]
      rw [hd] at h1
      have hlr : n ≤ r.length := by rw [g3, List.length_append] at hh; omega
      have hl : t.length = n := by rw [← h1, List.length_take]; omega
      refine ⟨by omega, ?_, by omega, r.drop n, ?_⟩
      · unfold textB; rw [List.length_append, hl]; omega
      · unfold textB; rw [hl, ← h1, List.append_assoc, List.take_append_drop]; exact g3
    · cases h
/-- Some texts, one behind the other. -/
def textsN : Nat → Str → Option (List Str × Nat)
  | 0, _ => some ([], 0)
  | n + 1, s => match textP s with
    | none => none
    | some (t, k) => (textsN n (s.drop k)).map fun r => (t :: r.1, k + r.2)
def textsP (s : Str) : Option (List Str × Nat) := match numP s with
  | none => none
  | some (n, k) => if n ≤ 40 then (textsN n (s.drop k)).map fun r => (r.1, k + r.2) else none
def textsA (b : Str) (s : TSrc) : Option (List Str × Nat) := if s.bad = true then none else textsP (b.drop s.at')
def textsB (l : List Str) : Str := numB l.length ++ (l.map textB).flatten
theorem textsN_textsB : ∀ {l : List Str} (s : Str), (∀ t ∈ l, t.length ≤ 60) → textsN l.length ((l.map textB).flatten ++ s) = some (l, (l.map textB).flatten.length)
  | [], s, _ => rfl
  | t :: l, s, h => by
    have hf : ((t :: l).map textB).flatten ++ s = textB t ++ ((l.map textB).flatten ++ s) := by rw [List.map_cons, List.flatten_cons, List.append_assoc]
    rw [hf, List.length_cons]
    unfold textsN
    rw [textP_textB (h t List.mem_cons_self)]
    simp only
    rw [List.drop_left, textsN_textsB s fun x hx => h x (List.mem_cons_of_mem _ hx)]
    simp
theorem textsP_textsB {l : List Str} (h : ∀ t ∈ l, t.length ≤ 60) (hl : l.length ≤ 40) (s : Str) : textsP (textsB l ++ s) = some (l, (textsB l).length) := by
  unfold textsP textsB
  rw [List.append_assoc, numP_numB (by omega)]
  simp only
  rw [if_pos hl, List.drop_left, textsN_textsB s h]
  simp [List.length_append]
theorem numOk_bad {b : Str} {s : TSrc} {x : TSrc × Nat} (h : NumOk b s x) (hb : x.1.bad = true) : numA b s = none := by
  obtain ⟨_, _, h3⟩ := h
  cases hn : numA b s with
  | none => rfl
  | some y => obtain ⟨n, k⟩ := y; rw [hn] at h3; simp only at h3; rw [h3] at hb; cases hb
theorem numOk_good {b : Str} {s : TSrc} {x : TSrc × Nat} (h : NumOk b s x) (hb : x.1.bad = false) : ∃ n k, numA b s = some (n, k) ∧ x = (⟨s.at' + k, false⟩, n) := by
  obtain ⟨_, _, h3⟩ := h
  cases hn : numA b s with
  | none => rw [hn] at h3; rw [h3.1] at hb; cases hb
  | some y => obtain ⟨n, k⟩ := y; rw [hn] at h3; exact ⟨n, k, rfl, h3⟩
theorem numOk_zero {b : Str} {s : TSrc} {x : TSrc × Nat} (h : NumOk b s x) (hb : x.1.bad = true) : x.2 = 0 := by
  have hn := numOk_bad h hb
  obtain ⟨_, _, h3⟩ := h
  rw [hn] at h3; exact h3.2
theorem textOk_bad {b : Str} {s : TSrc} {x : TSrc × Str} (h : TextOk b s x) (hb : x.1.bad = true) : textA b s = none := by
  obtain ⟨_, _, h3⟩ := h
  cases hn : textA b s with
  | none => rfl
  | some y => obtain ⟨n, k⟩ := y; rw [hn] at h3; simp only at h3; rw [h3] at hb; cases hb
theorem textOk_good {b : Str} {s : TSrc} {x : TSrc × Str} (h : TextOk b s x) (hb : x.1.bad = false) : ∃ t k, textA b s = some (t, k) ∧ x = (⟨s.at' + k, false⟩, t) := by
  obtain ⟨_, _, h3⟩ := h
  cases hn : textA b s with
  | none => rw [hn] at h3; rw [h3.1] at hb; cases hb
  | some y => obtain ⟨n, k⟩ := y; rw [hn] at h3; exact ⟨n, k, rfl, h3⟩
def TextsOk (b : Str) (s : TSrc) (t : TSrc) (l : List Str) : Prop := (s.at' ≤ t.at' ∧ t.at' ≤ b.length) ∧ match textsA b s with
  | some (r, k) => t = ⟨s.at' + k, false⟩ ∧ l = r
  | none => t.bad = true
/-- The next bytes, if there are so many. -/
def takeR (b : Str) (s : TSrc) (n : Nat) : TSrc × Str := if (s.bad || decide ((b.length : Int) - (s.at' : Int) < (n : Int))) = true then (⟨s.at', true⟩, []) else (⟨s.at' + n, false⟩, (b.drop s.at').take n)
theorem takeR_bad {b : Str} {s : TSrc} {n : Nat} (h : s.bad = true) : takeR b s n = (⟨s.at', true⟩, []) := by unfold takeR; rw [if_pos (by rw [h]; rfl)]
theorem takeR_one {b : Str} {s : TSrc} (h : s.bad = false) (hs : s.at' ≤ b.length) : (b.drop s.at' = [] ∧ takeR b s 1 = (⟨s.at', true⟩, [])) ∨ ∃ c r, b.drop s.at' = c :: r ∧ takeR b s 1 = (⟨s.at' + 1, false⟩, [c]) := by
  have hl : (b.drop s.at').length = b.length - s.at' := List.length_drop
  unfold takeR
  rw [h, Bool.false_or]
  cases hd : b.drop s.at' with
  | nil =>
    rw [hd] at hl
    simp only [List.length_nil] at hl
    exact .inl ⟨rfl, by rw [if_pos (decide_eq_true (by omega))]⟩
  | cons c r =>
    rw [hd] at hl
    simp only [List.length_cons] at hl
    exact .inr ⟨c, r, rfl, by rw [if_neg (by rw [decide_eq_true_eq]; omega)]; rfl⟩
theorem textA_take {b : Str} {s : TSrc} {n k : Nat} (h : numA b s = some (n, k)) (hs : s.at' ≤ b.length) : textA b s = if n ≤ 60 ∧ k + n ≤ (b.drop s.at').length then some (((b.drop s.at').drop k).take n, k + n) else none := by
  unfold numA at h
  unfold textA textP
  cases hb : s.bad with
  | true => rw [hb] at h; cases h
  | false => rw [hb] at h; simp only [Bool.false_eq_true, if_false] at h ⊢; rw [h]
theorem textA_none {b : Str} {s : TSrc} (h : numA b s = none) : textA b s = none := by
  unfold numA at h
  unfold textA textP
  cases hb : s.bad with
  | true => rfl
  | false => rw [hb] at h; simp only [Bool.false_eq_true, if_false] at h ⊢; rw [h]
theorem textsA_num {b : Str} {s : TSrc} {n k : Nat} (h : numA b s = some (n, k)) : textsA b s = if n ≤ 40 then (textsN n ((b.drop s.at').drop k)).map (fun r => (r.1, k + r.2)) else none := by
  unfold numA at h
  unfold textsA textsP
  cases hb : s.bad with
  | true => rw [hb] at h; cases h
  | false => rw [hb] at h; simp only [Bool.false_eq_true, if_false] at h ⊢; rw [h]
theorem textsA_none {b : Str} {s : TSrc} (h : numA b s = none) : textsA b s = none := by
  unfold numA at h
  unfold textsA textsP
  cases hb : s.bad with
  | true => rfl
  | false => rw [hb] at h; simp only [Bool.false_eq_true, if_false] at h ⊢; rw [h]
/-- What holds while texts are read: m are still to come. -/
def RunOk (b : Str) (s : TSrc) (t : TSrc) (l : List Str) (m : Nat) : Prop := (s.at' ≤ t.at' ∧ t.at' ≤ b.length) ∧ ((t.bad = true ∧ textsA b s = none) ∨ (t.bad = false ∧ textsA b s = (textsN m (b.drop t.at')).map fun r => (l ++ r.1, (t.at' - s.at') + r.2)))
theorem runOk_end {b : Str} {s t : TSrc} {l : List Str} (h : RunOk b s t l 0) : TextsOk b s t l := by
  obtain ⟨h1, h2⟩ := h
  refine ⟨h1, ?_⟩
  rcases h2 with ⟨h2, h3⟩ | ⟨h2, h3⟩
  · rw [h3]; exact h2
  · rw [h3]
    show t = ⟨s.at' + ((t.at' - s.at') + 0), false⟩ ∧ l = l ++ []
    refine ⟨?_, by rw [List.append_nil]⟩
    obtain ⟨ta, tb⟩ := t
    simp only at h2 h1
    rw [h2]
    show (⟨ta, false⟩ : TSrc) = ⟨s.at' + ((ta - s.at') + 0), false⟩
    rw [show s.at' + ((ta - s.at') + 0) = ta by omega]
theorem runOk_bad {b : Str} {s t : TSrc} {l : List Str} {m : Nat} (h : RunOk b s t l m) (hb : t.bad = true) : TextsOk b s t l := by
  obtain ⟨h1, h2⟩ := h
  refine ⟨h1, ?_⟩
  rcases h2 with ⟨h2, h3⟩ | ⟨h2, h3⟩
  · rw [h3]; exact h2
  · rw [h2] at hb; cases hb
theorem runOk_step {b : Str} {s t : TSrc} {l : List Str} {m : Nat} {x : TSrc × Str} (h : RunOk b s t l (m + 1)) (hb : t.bad = false) (hx : TextOk b t x) : RunOk b s x.1 (l ++ [x.2]) m := by
  obtain ⟨h1, h2⟩ := h
  have hxx := hx
  obtain ⟨g1, g2, g3⟩ := hx
  refine ⟨by omega, ?_⟩
  rcases h2 with ⟨h2, h3⟩ | ⟨h2, h3⟩
  · rw [h2] at hb; cases hb
  · have ht : textA b t = textP (b.drop t.at') := by unfold textA; rw [hb]; rfl
    cases hq : textP (b.drop t.at') with
    | none =>
      rw [ht, hq] at g3
      refine .inl ⟨g3.1, ?_⟩
      rw [h3]; unfold textsN; rw [hq]; rfl
    | some y =>
      obtain ⟨u, k⟩ := y
      rw [ht, hq] at g3
      simp only at g3
      subst g3
      refine .inr ⟨rfl, ?_⟩
      rw [h3]
      conv => lhs; unfold textsN
      rw [hq]
      simp only [Option.map_map, List.drop_drop]
      congr 1
      funext r
      simp only [Function.comp_apply, List.append_assoc, List.singleton_append]
      rw [show t.at' - s.at' + (k + r.2) = t.at' + k - s.at' + r.2 by omega]
theorem numP_over {p r : Str} {c : UInt8} (hcp : Cont p) (h : 1000000000 < vval (p ++ [c]) ∨ 5 ≤ p.length) : numP (p ++ c :: r) = none := by
  rcases Nat.lt_or_ge c.toNat 128 with hc | hc
  · rw [numP_stop hcp hc, if_neg]
    intro hh
    rcases h with h | h
    · omega
    · have h5 := numB_len5 hh.1
      rw [hh.2, List.length_append] at h5
      simp only [List.length_cons, List.length_nil] at h5
      omega
  · rcases h with h | h
    · have := numP_great (s := r) (cont_snoc hcp hc) h
      rwa [List.append_assoc] at this
    · exact numP_long hcp h
theorem vval_lt : ∀ (p : Str), vval p < 128 ^ p.length
  | [] => by decide
  | c :: p => by
    have := vval_lt p
    show c.toNat % 128 + 128 * vval p < 128 ^ (p.length + 1)
    rw [Nat.pow_succ]; omega
def oneR (b : Str) (s : TSrc) : TSrc × Nat := if (s.bad || decide ((b.length : Int) ≤ (s.at' : Int))) = true then (⟨s.at', true⟩, 0) else (⟨s.at' + 1, false⟩, (b.getD s.at' 0).toNat)
theorem oneR_bad {b : Str} {s : TSrc} (h : s.bad = true) : oneR b s = (⟨s.at', true⟩, 0) := by unfold oneR; rw [if_pos (by rw [h]; rfl)]
theorem oneR_one {b : Str} {s : TSrc} (h : s.bad = false) (hs : s.at' ≤ b.length) : (b.drop s.at' = [] ∧ oneR b s = (⟨s.at', true⟩, 0)) ∨ ∃ c r, b.drop s.at' = c :: r ∧ oneR b s = (⟨s.at' + 1, false⟩, c.toNat) := by
  have hl : (b.drop s.at').length = b.length - s.at' := List.length_drop
  unfold oneR
  rw [h, Bool.false_or]
  cases hd : b.drop s.at' with
  | nil =>
    rw [hd] at hl
    simp only [List.length_nil] at hl
    exact .inl ⟨rfl, by rw [if_pos (decide_eq_true (by omega))]⟩
  | cons c r =>
    rw [hd] at hl
    simp only [List.length_cons] at hl
    refine .inr ⟨c, r, rfl, ?_⟩
    rw [if_neg (by rw [decide_eq_true_eq]; omega)]
    have : b[s.at']? = some c := by
      have h9 : (b.drop s.at')[0]? = some c := by rw [hd]; rfl
      rwa [List.getElem?_drop, Nat.add_zero] at h9
    rw [List.getD_eq_getElem?_getD, this]; rfl
theorem runOk_start {b : Str} {s : TSrc} {x : TSrc × Nat} (h : NumOk b s x) (hn : x.2 ≤ 40) : RunOk b s x.1 [] x.2 := by
  refine ⟨h.1, ?_⟩
  cases hb : x.1.bad with
  | true => exact .inl ⟨rfl, textsA_none (numOk_bad h hb)⟩
  | false =>
    obtain ⟨n, k, h1, h2⟩ := numOk_good h hb
    subst h2
    refine .inr ⟨rfl, ?_⟩
    rw [textsA_num h1, if_pos hn, List.drop_drop]
    simp only [List.nil_append, Nat.add_sub_cancel_left]
theorem runOk_big {b : Str} {s : TSrc} {x : TSrc × Nat} (h : NumOk b s x) (hn : 40 < x.2) (m : Nat) : RunOk b s ⟨x.1.at', true⟩ [] m := by
  refine ⟨h.1, .inl ⟨rfl, ?_⟩⟩
  cases hb : x.1.bad with
  | true => have := numOk_zero h hb; omega
  | false =>
    obtain ⟨n, k, h1, h2⟩ := numOk_good h hb
    subst h2
    rw [textsA_num h1, if_neg (by simp only at hn; omega)]
theorem textsOk_bad {b : Str} {s t : TSrc} {l : List Str} (h : TextsOk b s t l) (hb : t.bad = true) : textsA b s = none := by
  obtain ⟨_, h2⟩ := h
  cases hn : textsA b s with
  | none => rfl
  | some y => obtain ⟨n, k⟩ := y; rw [hn] at h2; simp only at h2; rw [h2.1] at hb; cases hb
theorem textsOk_good {b : Str} {s t : TSrc} {l : List Str} (h : TextsOk b s t l) (hb : t.bad = false) : ∃ k, textsA b s = some (l, k) ∧ t = ⟨s.at' + k, false⟩ := by
  obtain ⟨_, h2⟩ := h
  cases hn : textsA b s with
  | none => rw [hn] at h2; rw [h2] at hb; cases hb
  | some y => obtain ⟨n, k⟩ := y; rw [hn] at h2; simp only at h2; rw [h2.2]; exact ⟨k, rfl, h2.1⟩
def placeB (b : Str) (at' : Int) : Bool := decide ((b.length : Int) ≤ 6000) && within at' 0 b.length
def readNumR (b : Str) (at' : Int) : Int × Int × Bool := if (!placeB b at') = true then (0, 0, false) else match numP (b.drop at'.toNat) with
  | some (n, k) => ((n : Int), at' + k, true)
  | none => (0, 0, false)
def readTextR (b : Str) (at' : Int) : Str × Int × Bool := if (!placeB b at') = true then ([], 0, false) else match textP (b.drop at'.toNat) with
  | some (t, k) => (t, at' + k, true)
  | none => ([], 0, false)
def readTextsR (b : Str) (at' : Int) : List Str × Int × Bool := if (!placeB b at') = true then ([], 0, false) else match textsP (b.drop at'.toNat) with
  | some (l, k) => (l, at' + k, true)
  | none => ([], 0, false)
theorem placeB_nat {b : Str} {at' : Int} (h : placeB b at' = true) : b.length ≤ 6000 ∧ 0 ≤ at' ∧ at' ≤ b.length := by
  unfold placeB at h
  simp only [Bool.and_eq_true, decide_eq_true_eq] at h
  have h2 := h.2
  unfold within at h2
  simp at h2
  omega
theorem readNumR_of {b : Str} {k : Nat} (h : placeB b k = true) : readNumR b k = match numP (b.drop k) with
  | some (n, j) => ((n : Int), (k : Int) + j, true)
  | none => (0, 0, false) := by unfold readNumR; rw [h]; rfl
theorem readTextR_of {b : Str} {k : Nat} (h : placeB b k = true) : readTextR b k = match textP (b.drop k) with
  | some (n, j) => (n, (k : Int) + j, true)
  | none => ([], 0, false) := by unfold readTextR; rw [h]; rfl
theorem readTextsR_of {b : Str} {k : Nat} (h : placeB b k = true) : readTextsR b k = match textsP (b.drop k) with
  | some (n, j) => (n, (k : Int) + j, true)
  | none => ([], 0, false) := by unfold readTextsR; rw [h]; rfl
def numBytesR (n : Int) : Str × Bool := if (!within n 0 1000000000) = true then ([], false) else (numB n.toNat, true)
def textBytesR (s : Str) : Str × Bool := if decide ((60 : Int) < s.length) = true then ([], false) else (textB s, true)
def longT (t : Str) : Bool := decide ((60 : Int) < t.length)
def textsBytesR (l : List Str) : Str × Bool := if (decide ((40 : Int) < l.length) || l.any longT) = true then ([], false) else (textsB l, true)
theorem textOk_s {b : Str} {s : TSrc} {x : TSrc × Nat} (hs : s.at' ≤ b.length) (h : NumOk b s x) :
    (((x.1.bad || decide ((60 : Int) < (x.2 : Int))) || decide ((b.length : Int) < (x.1.at' : Int) + (x.2 : Int))) = true → TextOk b s (⟨x.1.at', true⟩, [])) ∧
    (((x.1.bad || decide ((60 : Int) < (x.2 : Int))) || decide ((b.length : Int) < (x.1.at' : Int) + (x.2 : Int))) = false → TextOk b s (⟨x.1.at' + x.2, false⟩, (b.drop x.1.at').take x.2) ∧ x.1.bad = false ∧ x.1.at' + x.2 ≤ b.length ∧ x.2 ≤ 60) := by
  have h0 := h.1
  cases hb : x.1.bad with
  | true =>
    refine ⟨fun _ => ⟨h0, Nat.zero_le _, by rw [textA_none (numOk_bad h hb)]; exact ⟨rfl, rfl⟩⟩, fun hc => by simp at hc⟩
  | false =>
    obtain ⟨n, k, h1, h2⟩ := numOk_good h hb
    subst h2
    simp only at h0 ⊢
    have hl : (b.drop s.at').length = b.length - s.at' := List.length_drop
    have ht := textA_take h1 hs
    refine ⟨fun hc => ⟨h0, Nat.zero_le _, ?_⟩, fun hc => ?_⟩
    · rw [if_neg] at ht
      · rw [ht]; exact ⟨rfl, rfl⟩
      · intro hh
        simp only [Bool.false_or, Bool.or_eq_true, decide_eq_true_eq] at hc
        omega
    · simp only [Bool.false_or, Bool.or_eq_false_iff, decide_eq_false_iff_not] at hc
      rw [if_pos (by omega), List.drop_drop] at ht
      refine ⟨⟨⟨by show s.at' ≤ s.at' + k + n; omega, by show s.at' + k + n ≤ b.length; omega⟩, ?_, ?_⟩, by trivial, by omega, by omega⟩
      · show ((b.drop (s.at' + k)).take n).length ≤ 60
        rw [List.length_take]; omega
      · rw [ht]
        show ((⟨s.at' + k + n, false⟩ : TSrc), (b.drop (s.at' + k)).take n) = (⟨s.at' + (k + n), false⟩, (b.drop (s.at' + k)).take n)
        rw [Nat.add_assoc]
theorem numA_new {b : Str} {k : Nat} : numA b ⟨k, false⟩ = numP (b.drop k) := rfl
theorem textA_new {b : Str} {k : Nat} : textA b ⟨k, false⟩ = textP (b.drop k) := rfl
theorem textsA_new {b : Str} {k : Nat} : textsA b ⟨k, false⟩ = textsP (b.drop k) := rfl
end Go.M

set_option linter.unusedVariables false
set_option linter.unusedSimpArgs false
set_option maxRecDepth 100000
namespace Go.M
open Go.AV
theorem wrap_u8 (m : Nat) : IntKind.u8.wrap (m : Int) = ((UInt8.ofNat m).toNat : Int) := by
  rw [UInt8.toNat_ofNat']
  unfold IntKind.wrap
  simp [IntKind.bits, IntKind.signed]
theorem tmod_nat (m k : Nat) : ((m : Int).tmod (k : Int)) = ((m % k : Nat) : Int) := (Int.ofNat_tmod m k).symm
theorem tdiv_nat (m k : Nat) : ((m : Int).tdiv (k : Int)) = ((m / k : Nat) : Int) := (Int.ofNat_tdiv m k).symm
theorem wrap_nat {m : Nat} (h : m ≤ 9223372036854775807) : IntKind.i64.wrap (m : Int) = (m : Int) := in64 (by omega)
theorem byte_hi (m : Nat) : IntKind.u8.wrap (IntKind.u8.wrap ((m : Int).tmod 128) + 128) = ((UInt8.ofNat (m % 128 + 128)).toNat : Int) := by
  have h1 := tmod_nat m 128
  rw [show ((128 : Nat) : Int) = 128 from rfl] at h1
  rw [h1, wrap_u8, u8_nat (by omega)]
  have := wrap_u8 (m % 128 + 128)
  rw [← this]; simp
theorem byte_hi2 (m : Nat) : IntKind.u8.wrap ((m : Int).tmod 128 + 128) = ((UInt8.ofNat (m % 128 + 128)).toNat : Int) := by
  have h1 := tmod_nat m 128
  rw [show ((128 : Nat) : Int) = 128 from rfl] at h1
  rw [h1]
  have := wrap_u8 (m % 128 + 128)
  rw [← this]; simp
theorem quo_nat {m : Nat} (h : m ≤ 9223372036854775807) : IntKind.i64.wrap ((m : Int).tdiv 128) = ((m / 128 : Nat) : Int) := by
  have h1 := tdiv_nat m 128
  rw [show ((128 : Nat) : Int) = 128 from rfl] at h1
  rw [h1, wrap_nat (by omega)]
theorem numB_len9 {n : Nat} (h : n ≤ 4611686018427387904) : (numB n).length ≤ 9 := numB_len (k := 9) (by omega) (by decide)
end Go.M
namespace Go.Proofs.YtmlmmgeadombbaaGreatDoor
open Go Go.AV Go.M
attribute [local irreducible] OpW OpA OpS AWP FSpec ESpec GSpec OpE RetOk RetOkG RvDen Le Ev GuardIs SrcIs Int.tmod Int.tdiv IntKind.wrap
end Go.Proofs.YtmlmmgeadombbaaGreatDoor

set_option linter.unusedVariables false
set_option linter.unusedSimpArgs false
set_option maxRecDepth 100000
namespace Go.M
open Go.AV
theorem rem_byte (c : UInt8) : IntKind.i64.wrap ((c.toNat : Int).tmod 128) = ((c.toNat % 128 : Nat) : Int) := by
  have h1 := tmod_nat c.toNat 128
  rw [show ((128 : Nat) : Int) = 128 from rfl] at h1
  rw [h1]; exact wrap_nat (by omega)
theorem vval_next (p : Str) (c : UInt8) : ((vval p : Nat) : Int) + ((c.toNat % 128 : Nat) : Int) * ((128 ^ p.length : Nat) : Int) = ((vval (p ++ [c]) : Nat) : Int) := by
  rw [vval_snoc]; simp
theorem pow_le5 {p : Str} (h : p.length ≤ 5) : 128 ^ p.length ≤ 34359738368 := Nat.le_trans (Nat.pow_le_pow_right (by decide) h) (by decide)
theorem mul_bd {a b : Nat} (ha : a ≤ 127) (hb : b ≤ 34359738368) : -9223372036854775808 ≤ ((a : Nat) : Int) * ((b : Nat) : Int) ∧ ((a : Nat) : Int) * ((b : Nat) : Int) ≤ 4363686772736 := by
  have h := Nat.mul_le_mul ha hb
  have h2 : ((a : Nat) : Int) * ((b : Nat) : Int) = ((a * b : Nat) : Int) := by simp
  rw [h2]; omega
theorem pow_next (p : Str) (c : UInt8) : ((128 ^ p.length : Nat) : Int) * 128 = ((128 ^ (p ++ [c]).length : Nat) : Int) := by
  rw [List.length_append, List.length_cons, List.length_nil, Nat.zero_add, Nat.pow_succ]; simp
theorem drop_more {b p r : Str} {a : Nat} {c : UInt8} (h : b.drop a = p ++ c :: r) : b.drop a = (p ++ [c]) ++ r := by rw [h, List.append_assoc]; rfl
theorem drop_at {b p r : Str} {a : Nat} (h : b.drop a = p ++ r) : b.drop (a + p.length) = r := by rw [← List.drop_drop, h, List.drop_left]
theorem take_drop_at {b p r : Str} {a : Nat} (h : b.drop a = p ++ r) : (b.take (a + p.length)).drop a = p := by
  rw [List.drop_take, h, Nat.add_sub_cancel_left, List.take_left]
/-- The number read so far ends here: what the reader says of it. -/
theorem numOk_none {b : Str} {s t : TSrc} (h1 : s.at' ≤ t.at' ∧ t.at' ≤ b.length) (h2 : t.bad = true) (h3 : numA b s = none) : NumOk b s (t, 0) := ⟨h1, Nat.zero_le _, by rw [h3]; exact ⟨h2, rfl⟩⟩
theorem numA_good {b : Str} {s : TSrc} (h : s.bad = false) : numA b s = numP (b.drop s.at') := by unfold numA; rw [h]; rfl
theorem numA_bad {b : Str} {s : TSrc} (h : s.bad = true) : numA b s = none := by unfold numA; rw [h]; rfl
theorem textOk_big {b : Str} {s : TSrc} {x : TSrc × Nat} (hs : s.at' ≤ b.length) (h : NumOk b s x) (hn : 60 < x.2) : TextOk b s (⟨x.1.at', true⟩, []) := by
  refine ⟨h.1, Nat.zero_le _, ?_⟩
  have hb : x.1.bad = false := by
    cases hb : x.1.bad with
    | false => rfl
    | true => have := numOk_zero h hb; omega
  obtain ⟨n, k, h1, h2⟩ := numOk_good h hb
  rw [textA_take h1 hs, if_neg (by rw [h2] at hn; simp only at hn; omega)]
  exact ⟨rfl, rfl⟩
theorem textOk_take {b : Str} {s : TSrc} {x : TSrc × Nat} (hs : s.at' ≤ b.length) (h : NumOk b s x) (hn : x.2 ≤ 60) : TextOk b s (takeR b x.1 x.2) := by
  have h0 := h.1
  cases hb : x.1.bad with
  | true =>
    rw [takeR_bad hb]
    exact ⟨h0, Nat.zero_le _, by rw [textA_none (numOk_bad h hb)]; exact ⟨rfl, rfl⟩⟩
  | false =>
    obtain ⟨n, k, h1, h2⟩ := numOk_good h hb
    subst h2
    simp only at hn h0 ⊢
    have hl : (b.drop s.at').length = b.length - s.at' := List.length_drop
    have ht := textA_take h1 hs
    unfold takeR
    by_cases hc : k + n ≤ (b.drop s.at').length
    · rw [if_pos ⟨hn, hc⟩, List.drop_drop] at ht
      rw [if_neg (by rw [Bool.false_or, decide_eq_true_eq]; simp only; omega)]
      refine ⟨⟨by show s.at' ≤ s.at' + k + n; omega, by show s.at' + k + n ≤ b.length; omega⟩, ?_, ?_⟩
      · show ((b.drop (s.at' + k)).take n).length ≤ 60
        rw [List.length_take]; omega
      · rw [ht]
        show ((⟨s.at' + k + n, false⟩ : TSrc), (b.drop (s.at' + k)).take n) = (⟨s.at' + (k + n), false⟩, (b.drop (s.at' + k)).take n)
        rw [Nat.add_assoc]
    · rw [if_neg (fun hh => hc hh.2)] at ht
      rw [if_pos (by rw [Bool.false_or, decide_eq_true_eq]; simp only; omega)]
      exact ⟨h0, Nat.zero_le _, by rw [ht]; exact ⟨rfl, rfl⟩⟩
theorem one_case {b p r0 : Str} {s t : TSrc} {xv : Nat} (hcp : Cont p) (hr0 : b.drop s.at' = p ++ r0) (hpl2 : s.at' + p.length ≤ b.length) (ht : (oneR b ⟨s.at' + p.length, s.bad⟩).1 = t) (hxv : (oneR b ⟨s.at' + p.length, s.bad⟩).2 = xv) :
    (t = ⟨s.at' + p.length, true⟩ ∧ xv = 0 ∧ numA b s = none) ∨ ∃ c r, r0 = c :: r ∧ t = ⟨s.at' + p.length + 1, false⟩ ∧ xv = c.toNat ∧ s.bad = false := by
  cases hsb : s.bad with
  | true =>
    rw [hsb, oneR_bad rfl] at ht hxv
    exact .inl ⟨ht.symm, hxv.symm, numA_bad hsb⟩
  | false =>
    rw [hsb] at ht hxv
    rcases oneR_one (b := b) (s := ⟨s.at' + p.length, false⟩) rfl hpl2 with ⟨g1, g2⟩ | ⟨c, r, g1, g2⟩
    · rw [g2] at ht hxv
      rw [drop_at hr0] at g1
      exact .inl ⟨ht.symm, hxv.symm, by rw [numA_good hsb, hr0, g1, List.append_nil]; exact numP_end hcp⟩
    · rw [g2] at ht hxv
      rw [drop_at hr0] at g1
      exact .inr ⟨c, r, g1, ht.symm, hxv.symm, rfl⟩
theorem one_bounds {b p r0 : Str} {s t : TSrc} {xv : Nat} (hpl2 : s.at' + p.length ≤ b.length) (hcase : (t = ⟨s.at' + p.length, true⟩ ∧ xv = 0 ∧ numA b s = none) ∨ ∃ c r, r0 = c :: r ∧ t = ⟨s.at' + p.length + 1, false⟩ ∧ xv = c.toNat ∧ s.bad = false) (hr0 : b.drop s.at' = p ++ r0) : s.at' ≤ t.at' ∧ t.at' ≤ b.length := by
  rcases hcase with ⟨h1, _⟩ | ⟨c, r, h1, h2, _⟩
  · rw [h1]; exact ⟨by show s.at' ≤ s.at' + p.length; omega, hpl2⟩
  · have h9 := congrArg List.length hr0
    rw [h1, List.length_drop, List.length_append, List.length_cons] at h9
    rw [h2]
    exact ⟨by show s.at' ≤ s.at' + p.length + 1; omega, by show s.at' + p.length + 1 ≤ b.length; omega⟩
theorem num_case {b p r0 : Str} {s t : TSrc} {xv V : Nat} (hcp : Cont p) (hr0 : b.drop s.at' = p ++ r0) (hcase : (t = ⟨s.at' + p.length, true⟩ ∧ xv = 0 ∧ numA b s = none) ∨ ∃ c r, r0 = c :: r ∧ t = ⟨s.at' + p.length + 1, false⟩ ∧ xv = c.toNat ∧ s.bad = false) (hx : xv < 128) (hV : vval p + xv % 128 * 128 ^ p.length = V) (htb : s.at' ≤ t.at' ∧ t.at' ≤ b.length) :
    (((t.bad || decide ((1000000000 : Int) < (V : Int))) || (numB V != (b.take t.at').drop s.at')) = true → numA b s = none) ∧ (((t.bad || decide ((1000000000 : Int) < (V : Int))) || (numB V != (b.take t.at').drop s.at')) = false → NumOk b s (t, V)) := by
  rcases hcase with ⟨h1, _, h3⟩ | ⟨c, r, h1, h2, h3, h4⟩
  · exact ⟨fun _ => h3, fun h => by rw [h1] at h; simp at h⟩
  · have hd1 : b.drop s.at' = p ++ c :: r := by rw [hr0, h1]
    have hd2 := drop_more hd1
    have hVc : V = vval (p ++ [c]) := by rw [← hV, h3, vval_snoc]
    have hsl : (b.take t.at').drop s.at' = p ++ [c] := by
      rw [h2]
      show (b.take (s.at' + p.length + 1)).drop s.at' = _
      rw [show s.at' + p.length + 1 = s.at' + (p ++ [c]).length by simp; omega]
      exact take_drop_at hd2
    have hst := numP_stop (s := r) hcp (show c.toNat < 128 by omega)
    rw [← hd1, ← numA_good h4, ← hVc] at hst
    rw [hsl]
    have hbad : t.bad = false := by rw [h2]
    rw [hbad, Bool.false_or]
    refine ⟨fun h => ?_, fun h => ?_⟩
    · rw [hst, if_neg]
      intro hh
      rw [hh.2] at h
      simp at h; omega
    · simp only [Bool.or_eq_false_iff, decide_eq_false_iff_not, bne_eq_false_iff_eq] at h
      rw [if_pos ⟨by omega, h.2⟩] at hst
      exact ⟨htb, by show V ≤ _; omega, by rw [hst, h2]; rfl⟩
theorem num_five {b p r0 : Str} {s t : TSrc} {V : Nat} (hcp : Cont p) (hr0 : b.drop s.at' = p ++ r0) (h5 : p.length = 5) (hpb : p ≠ [] → s.bad = false) (ht : (⟨s.at' + p.length, s.bad⟩ : TSrc) = t) (hV : vval p = V) :
    (((t.bad || decide ((1000000000 : Int) < (V : Int))) || (numB V != (b.take t.at').drop s.at')) = true → numA b s = none) ∧ (((t.bad || decide ((1000000000 : Int) < (V : Int))) || (numB V != (b.take t.at').drop s.at')) = false → NumOk b s (t, V)) := by
  have hsb := hpb (by intro hc; rw [hc] at h5; cases h5)
  refine ⟨fun _ => by rw [numA_good hsb, hr0]; exact numP_long hcp (by omega), fun h => ?_⟩
  exfalso
  have hsl : (b.take t.at').drop s.at' = p := by rw [← ht]; exact take_drop_at hr0
  rw [hsl] at h
  simp only [Bool.or_eq_false_iff, bne_eq_false_iff_eq] at h
  exact cont_ne hcp V h.2
end Go.M
namespace Go.Proofs.YtmlmmgeadombbaaGreatDoor
open Go Go.AV Go.M
attribute [local irreducible] OpW OpA OpS AWP FSpec ESpec GSpec OpE RetOk RetOkG RvDen Le Ev GuardIs SrcIs Int.tmod Int.tdiv IntKind.wrap
end Go.Proofs.YtmlmmgeadombbaaGreatDoor

set_option linter.unusedVariables false
set_option linter.unusedSimpArgs false
set_option maxRecDepth 100000
namespace Go.M
open Go.AV
theorem textB_len {t : Str} (h : t.length ≤ 4611686018427387904) : (textB t).length ≤ 9 + t.length := by
  unfold textB; rw [List.length_append]; have := numB_len9 h; omega
theorem flatB_len : ∀ {l : List Str}, (∀ t ∈ l, t.length ≤ 1048576) → ((l.map textB).flatten).length ≤ 10 * sizeL (fun x : Str => x.length) l
  | [], _ => Nat.zero_le _
  | t :: l, h => by
    have h1 := flatB_len (l := l) fun x hx => h x (List.mem_cons_of_mem _ hx)
    have h2 := h t List.mem_cons_self
    have h3 := textB_len (t := t) (by omega)
    unfold sizeL at h1 ⊢
    simp only [List.map_cons, List.flatten_cons, List.length_append, List.length_cons, List.sum_cons] at h1 ⊢
    omega
theorem takeB_next {l : List Str} {i : Nat} {x : Str} (h : l[i]? = some x) : ((l.take (i + 1)).map textB).flatten = ((l.take i).map textB).flatten ++ textB x := by
  rw [List.take_add_one, h]; simp
theorem sizeT_take {l : List Str} (i : Nat) : sizeL (fun x : Str => x.length) (l.take i) ≤ sizeL (fun x : Str => x.length) l := by
  have h : l = l.take i ++ l.drop i := (List.take_append_drop i l).symm
  unfold sizeL
  conv => rhs; rw [h]
  simp only [List.length_append, List.map_append, List.sum_append]
  omega
theorem sizeT_mem {l : List Str} {x : Str} (h : x ∈ l) : x.length ≤ sizeL (fun x : Str => x.length) l := sizeL_mem (f := fun x : Str => x.length) h
theorem textsB_len {l : List Str} (h : sizeL (fun x : Str => x.length) l ≤ 1048576) (i : Nat) : (numB l.length ++ ((l.take i).map textB).flatten).length ≤ 9 + 10485760 := by
  have h1 := sizeL_len (f := fun x : Str => x.length) (l := l)
  have h2 := numB_len9 (n := l.length) (by omega)
  have h3 := flatB_len (l := l.take i) fun t ht => Nat.le_trans (sizeT_mem (List.mem_of_mem_take ht)) h
  have h4 := sizeT_take (l := l) i
  rw [List.length_append]; omega
end Go.M
namespace Go.Proofs.YtmlmmgeadombbaaGreatDoor
open Go Go.AV Go.M
attribute [local irreducible] OpW OpA OpS AWP FSpec ESpec GSpec OpE RetOk RetOkG RvDen Le Ev GuardIs SrcIs Int.tmod Int.tdiv IntKind.wrap
end Go.Proofs.YtmlmmgeadombbaaGreatDoor

set_option linter.unusedVariables false
set_option linter.unusedSimpArgs false
namespace Go.M
open Go.AV
/-- What a reader of choices holds: where it is, its seed. -/
structure TCur where
  p : Nat
  seed : Int
def bytesI (l : List Int) : AV := AV.list 1 (l.map fun x => [AV.ik .u8 x])
def curC (code : List Int) (c : TCur) : List AV := [bytesI code, AV.int c.p, AV.ik .u64 c.seed]
def ByteL (code : List Int) : Prop := ∀ x ∈ code, 0 ≤ x ∧ x ≤ 255
theorem byteL_of {l : List Int} (h : ∀ x ∈ l, (Lit.int .u8 x).wf = true) : ByteL l := fun x hx => by
  have := h x hx
  simp only [Lit.wf, IntKind.min, IntKind.max, IntKind.signed, IntKind.bits] at this
  simp at this
  omega
theorem wrapS {x : Int} (h : 0 ≤ x ∧ x ≤ 255) : IntKind.i64.wrap x = x := in64 (by omega)
theorem bandI_255 (x : Int) : 0 ≤ bandI x 255 ∧ bandI x 255 ≤ 255 := by
  unfold bandI
  have h1 : (BitVec.ofInt IntKind.u64.bits x &&& BitVec.ofInt IntKind.u64.bits 255).toNat ≤ 255 := by
    rw [BitVec.toNat_and]
    exact Nat.le_trans Nat.and_le_right (by decide)
  generalize (BitVec.ofInt IntKind.u64.bits x &&& BitVec.ofInt IntKind.u64.bits 255).toNat = n at h1
  unfold IntKind.wrap
  simp [IntKind.bits, IntKind.signed]
  omega
def bigB (code more : List Int) : Bool := decide ((1048576 : Int) < code.length) || decide ((1048576 : Int) - code.length < more.length)
end Go.M

set_option linter.unusedVariables false
set_option linter.unusedSimpArgs false
set_option maxRecDepth 100000
namespace Go.Proofs.YtmlmmgeadombbaaGreatDoor
open Go Go.AV Go.M
attribute [local irreducible] OpW OpA OpS AWP FSpec ESpec GSpec OpE RetOk RetOkG RvDen Le Ev GuardIs SrcIs Int.tmod IntKind.wrap bandI
theorem curNext_own (b : Nat) (code : List Int) (hcode : ByteL code) (c : TCur) (hp : c.p ≤ 8000000) : GSpec Tryz.prog 129 [AV.ptr b 0] [.box b 61 (curC code c)] (fun x : TCur × Int => x.1.p ≤ c.p + 1 ∧ 0 ≤ x.2 ∧ x.2 ≤ 255) (fun x => [.box b 61 (curC code x.1)]) (fun x => AV.int x.2) := by
  have hcb := hcode
  refine gspec_of_awp Tryz.func129 rfl Tryz.ntmps129 rfl ?_
  refine awp_seq ?_
  refine awp_region ?_
  refine sq_plain rfl rfl rfl (w_assign rfl ev_ci) ?_
  refine sq_nil ?_
  refine awp_seq ?_
  refine awp_region ?_
  try rw [wrapS hzb]
  refine sq_plain rfl rfl rfl (w_assign rfl ev_ci) ?_
  refine sq_nil ?_
  refine awp_seq ?_
  refine awp_seq ?_
  refine awp_region_any (by kernel_rfl) (by kernel_rfl) rfl ?_
  refine ch_plain rfl rfl (w_move rfl (ev_tmp rfl)) ?_
  refine ch_plain rfl rfl (w_nilB rfl (ev_tmp rfl)) ?_
  refine ch_plain rfl rfl (w_fldBn 1 rfl Tryz.underlying61 rfl Tryz.sizeOf3 (ev_tmp rfl) rfl) ?_
  refine ch_plain rfl rfl (w_loadB1 0 rfl (ev_tmp rfl) rfl Tryz.isAgg3 rfl) ?_
  refine ch_plain rfl rfl (w_move rfl (ev_tmp rfl)) ?_
  refine ch_plain rfl rfl (w_nilB rfl (ev_tmp rfl)) ?_
  refine ch_plain rfl rfl (w_fldBn 0 rfl Tryz.underlying61 rfl Tryz.sizeOf22 (ev_tmp rfl) rfl) ?_
  refine ch_plain rfl rfl (w_loadB1 0 rfl (ev_tmp rfl) rfl Tryz.isAgg22 rfl) ?_
  refine ch_plain rfl rfl (w_llen rfl Tryz.underlying22 (ev_tmp rfl)) ?_
  refine ch_plain rfl rfl (w_lss rfl (ev_tmp rfl) (ev_tmp rfl)) ?_
  refine ch_nil ?_
  refine awp_cond (ev_tmp rfl) ?_ ?_
  · intro h13
    have k13 := of_decide_eq_true h13; try simp only [List.length_map] at k13
    obtain ⟨z, hz⟩ := get_some (show c.p < code.length by omega)
    have hzb := hcb z (List.mem_of_getElem? hz)
    refine awp_region_any (by kernel_rfl) (by kernel_rfl) rfl ?_
    refine ch_plain rfl rfl (w_move rfl (ev_tmp rfl)) ?_
    refine ch_plain rfl rfl (w_nilB rfl (ev_tmp rfl)) ?_
    refine ch_plain rfl rfl (w_fldBn 0 rfl Tryz.underlying61 rfl Tryz.sizeOf22 (ev_tmp rfl) rfl) ?_
    refine ch_plain rfl rfl (w_loadB1 0 rfl (ev_tmp rfl) rfl Tryz.isAgg22 rfl) ?_
    refine ch_plain rfl rfl (w_move rfl (ev_tmp rfl)) ?_
    refine ch_plain rfl rfl (w_nilB rfl (ev_tmp rfl)) ?_
    refine ch_plain rfl rfl (w_fldBn 1 rfl Tryz.underlying61 rfl Tryz.sizeOf3 (ev_tmp rfl) rfl) ?_
    refine ch_plain rfl rfl (w_loadB1 0 rfl (ev_tmp rfl) rfl Tryz.isAgg3 rfl) ?_
    refine ch_plain rfl rfl (w_idxm rfl Tryz.underlying22 Tryz.sizeOf5 (ev_tmp rfl) (ev_tmp rfl) hz rfl) ?_
    refine ch_plain rfl rfl (w_loadE1 rfl (ev_tmp rfl) Tryz.isAgg5 rfl) ?_
    refine ch_plain rfl rfl (w_conv rfl (by kernel_rfl) Tryz.underlying3 (ev_tmp rfl)) ?_
    try rw [wrapS hzb]
    refine ch_plain rfl rfl (w_assign rfl (ev_tmp rfl)) ?_
    refine ch_nil ?_
    refine awp_seq ?_
    refine awp_region ?_
    refine sq_plain rfl rfl rfl (w_move rfl (ev_tmp rfl)) ?_
    refine sq_plain rfl rfl rfl (w_nilB rfl (ev_tmp rfl)) ?_
    refine sq_plain rfl rfl rfl (w_fldBn 1 rfl Tryz.underlying61 rfl Tryz.sizeOf3 (ev_tmp rfl) rfl) ?_
    refine sq_plain rfl rfl rfl (w_loadB1 0 rfl (ev_tmp rfl) rfl Tryz.isAgg3 rfl) ?_
    refine sq_plain rfl rfl rfl (w_addi rfl (ev_tmp rfl) ev_ci (by first | omega | ((try simp only [List.length_map, List.length_take, List.length_cons, List.length_nil, chunks_len, szR] at *); omega) | (have hc2 := hc; simp only [Bool.and_eq_true, Bool.or_eq_true, Bool.or_eq_false_iff, Bool.and_eq_false_iff, Bool.not_eq_true', Bool.not_eq_false', decide_eq_true_eq, decide_eq_false_iff_not, beq_iff_eq, bne_iff_ne, List.length_map, List.length_take] at hc2; omega))) ?_
    refine sq_plain rfl rfl rfl (w_nilB rfl (ev_tmp rfl)) ?_
    refine sq_plain rfl rfl rfl (w_fldBn 1 rfl Tryz.underlying61 rfl Tryz.sizeOf3 (ev_tmp rfl) rfl) ?_
    refine sq_storeB1 0 rfl rfl rfl (ev_tmp rfl) (ev_tmp rfl) (as_ik _ _) rfl Tryz.sizeOf3 rfl ?_
    refine sq_nil ?_
    refine awp_seq ?_
    refine awp_region ?_
    refine sq_plain rfl rfl rfl (w_move rfl (ev_tmp rfl)) ?_
    refine sq_plain rfl rfl rfl (w_move rfl (ev_tmp rfl)) ?_
    refine sq_plain rfl rfl rfl (w_nilB rfl (ev_tmp rfl)) ?_
    refine sq_plain rfl rfl rfl (w_fldBn 2 rfl Tryz.underlying61 rfl Tryz.sizeOf59 (ev_tmp rfl) rfl) ?_
    refine sq_plain rfl rfl rfl (w_loadB1 0 rfl (ev_tmp rfl) rfl Tryz.isAgg59 rfl) ?_
    refine sq_plain rfl rfl rfl (w_mul rfl (ev_tmp rfl) ev_ci) ?_
    refine sq_plain rfl rfl rfl (w_move rfl (ev_tmp rfl)) ?_
    refine sq_plain rfl rfl rfl (w_conv rfl (by kernel_rfl) Tryz.underlying59 (ev_tmp rfl)) ?_
    refine sq_plain rfl rfl rfl (w_add rfl (ev_tmp rfl) (ev_tmp rfl)) ?_
    refine sq_plain rfl rfl rfl (w_add rfl (ev_tmp rfl) ev_ci) ?_
    refine sq_plain rfl rfl rfl (w_nilB rfl (ev_tmp rfl)) ?_
    refine sq_plain rfl rfl rfl (w_fldBn 2 rfl Tryz.underlying61 rfl Tryz.sizeOf59 (ev_tmp rfl) rfl) ?_
    refine sq_storeB1 0 rfl rfl rfl (ev_tmp rfl) (ev_tmp rfl) (as_ik _ _) rfl Tryz.sizeOf59 rfl ?_
    refine sq_nil ?_
    refine awp_seq ?_
    refine awp_seq ?_
    refine awp_region_any (by kernel_rfl) (by kernel_rfl) rfl ?_
    refine ch_plain rfl rfl (w_move rfl (ev_tmp rfl)) ?_
    refine ch_plain rfl rfl (w_nilB rfl (ev_tmp rfl)) ?_
    refine ch_plain rfl rfl (w_fldBn 1 rfl Tryz.underlying61 rfl Tryz.sizeOf3 (ev_tmp rfl) rfl) ?_
    refine ch_plain rfl rfl (w_loadB1 0 rfl (ev_tmp rfl) rfl Tryz.isAgg3 rfl) ?_
    refine ch_plain rfl rfl (w_move rfl (ev_tmp rfl)) ?_
    refine ch_plain rfl rfl (w_nilB rfl (ev_tmp rfl)) ?_
    refine ch_plain rfl rfl (w_fldBn 0 rfl Tryz.underlying61 rfl Tryz.sizeOf22 (ev_tmp rfl) rfl) ?_
    refine ch_plain rfl rfl (w_loadB1 0 rfl (ev_tmp rfl) rfl Tryz.isAgg22 rfl) ?_
    refine ch_plain rfl rfl (w_llen rfl Tryz.underlying22 (ev_tmp rfl)) ?_
    refine ch_plain rfl rfl (w_leq rfl (ev_tmp rfl) (ev_tmp rfl)) ?_
    refine ch_nil ?_
    refine awp_cond (ev_tmp rfl) ?_ ?_
    · intro h53
      have k53 := of_decide_eq_true h53; try simp only [List.length_map] at k53
      refine awp_seq ?_
      refine awp_region ?_
      refine sq_plain rfl rfl rfl (w_move rfl (ev_tmp rfl)) ?_
      refine sq_plain rfl rfl rfl (w_assign rfl (ev_tmp rfl)) ?_
      refine sq_nil ?_
      refine awp_ret ?_
      (refine retG [0] ((⟨c.p + 1, _⟩, _)) ?_ rfl (by first | (dsimp only; rfl) | rfl) (resR rfl (rv_tmp' rfl (by first | rfl | (refine congrArg AV.bool ?_; simp_all; done)))); first | exact ⟨Nat.le_refl _, hzb⟩ | exact ⟨Nat.le_refl _, Int.le_refl 0, (show (0 : Int) ≤ 255 by decide)⟩ | (rw [wrapS (bandI_255 _)]; exact ⟨Nat.le_refl _, bandI_255 _⟩))
    · intro h53
      have k53 := of_decide_eq_false h53; try simp only [List.length_map] at k53
      refine awp_skip ?_
      refine awp_seq ?_
      refine awp_region ?_
      refine sq_plain rfl rfl rfl (w_move rfl (ev_tmp rfl)) ?_
      refine sq_plain rfl rfl rfl (w_nilB rfl (ev_tmp rfl)) ?_
      refine sq_plain rfl rfl rfl (w_fldBn 2 rfl Tryz.underlying61 rfl Tryz.sizeOf59 (ev_tmp rfl) rfl) ?_
      refine sq_plain rfl rfl rfl (w_loadB1 0 rfl (ev_tmp rfl) rfl Tryz.isAgg59 rfl) ?_
      refine sq_plain rfl rfl rfl (w_shr rfl (ev_tmp rfl) ev_ci (by decide) (by decide)) ?_
      refine sq_plain rfl rfl rfl (w_band rfl (ev_tmp rfl) ev_ci) ?_
      refine sq_plain rfl rfl rfl (w_conv rfl (by kernel_rfl) Tryz.underlying3 (ev_tmp rfl)) ?_
      refine sq_plain rfl rfl rfl (w_assign rfl (ev_tmp rfl)) ?_
      refine sq_nil ?_
      refine awp_ret ?_
      (refine retG [0] ((⟨c.p + 1, _⟩, _)) ?_ rfl (by first | (dsimp only; rfl) | rfl) (resR rfl (rv_tmp' rfl (by first | rfl | (refine congrArg AV.bool ?_; simp_all; done)))); first | exact ⟨Nat.le_refl _, hzb⟩ | exact ⟨Nat.le_refl _, Int.le_refl 0, (show (0 : Int) ≤ 255 by decide)⟩ | (rw [wrapS (bandI_255 _)]; exact ⟨Nat.le_refl _, bandI_255 _⟩))
  · intro h13
    have k13 := of_decide_eq_false h13; try simp only [List.length_map] at k13
    refine awp_skip ?_
    refine awp_seq ?_
    refine awp_region ?_
    refine sq_plain rfl rfl rfl (w_move rfl (ev_tmp rfl)) ?_
    refine sq_plain rfl rfl rfl (w_nilB rfl (ev_tmp rfl)) ?_
    refine sq_plain rfl rfl rfl (w_fldBn 1 rfl Tryz.underlying61 rfl Tryz.sizeOf3 (ev_tmp rfl) rfl) ?_
    refine sq_plain rfl rfl rfl (w_loadB1 0 rfl (ev_tmp rfl) rfl Tryz.isAgg3 rfl) ?_
    refine sq_plain rfl rfl rfl (w_addi rfl (ev_tmp rfl) ev_ci (by first | omega | ((try simp only [List.length_map, List.length_take, List.length_cons, List.length_nil, chunks_len, szR] at *); omega) | (have hc2 := hc; simp only [Bool.and_eq_true, Bool.or_eq_true, Bool.or_eq_false_iff, Bool.and_eq_false_iff, Bool.not_eq_true', Bool.not_eq_false', decide_eq_true_eq, decide_eq_false_iff_not, beq_iff_eq, bne_iff_ne, List.length_map, List.length_take] at hc2; omega))) ?_
    refine sq_plain rfl rfl rfl (w_nilB rfl (ev_tmp rfl)) ?_
    refine sq_plain rfl rfl rfl (w_fldBn 1 rfl Tryz.underlying61 rfl Tryz.sizeOf3 (ev_tmp rfl) rfl) ?_
    refine sq_storeB1 0 rfl rfl rfl (ev_tmp rfl) (ev_tmp rfl) (as_ik _ _) rfl Tryz.sizeOf3 rfl ?_
    refine sq_nil ?_
    refine awp_seq ?_
    refine awp_region ?_
    refine sq_plain rfl rfl rfl (w_move rfl (ev_tmp rfl)) ?_
    refine sq_plain rfl rfl rfl (w_move rfl (ev_tmp rfl)) ?_
    refine sq_plain rfl rfl rfl (w_nilB rfl (ev_tmp rfl)) ?_
    refine sq_plain rfl rfl rfl (w_fldBn 2 rfl Tryz.underlying61 rfl Tryz.sizeOf59 (ev_tmp rfl) rfl) ?_
    refine sq_plain rfl rfl rfl (w_loadB1 0 rfl (ev_tmp rfl) rfl Tryz.isAgg59 rfl) ?_
    refine sq_plain rfl rfl rfl (w_mul rfl (ev_tmp rfl) ev_ci) ?_
    refine sq_plain rfl rfl rfl (w_move rfl (ev_tmp rfl)) ?_
    refine sq_plain rfl rfl rfl (w_conv rfl (by kernel_rfl) Tryz.underlying59 (ev_tmp rfl)) ?_
    refine sq_plain rfl rfl rfl (w_add rfl (ev_tmp rfl) (ev_tmp rfl)) ?_
    refine sq_plain rfl rfl rfl (w_add rfl (ev_tmp rfl) ev_ci) ?_
    refine sq_plain rfl rfl rfl (w_nilB rfl (ev_tmp rfl)) ?_
    refine sq_plain rfl rfl rfl (w_fldBn 2 rfl Tryz.underlying61 rfl Tryz.sizeOf59 (ev_tmp rfl) rfl) ?_
    refine sq_storeB1 0 rfl rfl rfl (ev_tmp rfl) (ev_tmp rfl) (as_ik _ _) rfl Tryz.sizeOf59 rfl ?_
    refine sq_nil ?_
    refine awp_seq ?_
    refine awp_seq ?_
    refine awp_region_any (by kernel_rfl) (by kernel_rfl) rfl ?_
    refine ch_plain rfl rfl (w_move rfl (ev_tmp rfl)) ?_
    refine ch_plain rfl rfl (w_nilB rfl (ev_tmp rfl)) ?_
    refine ch_plain rfl rfl (w_fldBn 1 rfl Tryz.underlying61 rfl Tryz.sizeOf3 (ev_tmp rfl) rfl) ?_
    refine ch_plain rfl rfl (w_loadB1 0 rfl (ev_tmp rfl) rfl Tryz.isAgg3 rfl) ?_
    refine ch_plain rfl rfl (w_move rfl (ev_tmp rfl)) ?_
    refine ch_plain rfl rfl (w_nilB rfl (ev_tmp rfl)) ?_
    refine ch_plain rfl rfl (w_fldBn 0 rfl Tryz.underlying61 rfl Tryz.sizeOf22 (ev_tmp rfl) rfl) ?_
    refine ch_plain rfl rfl (w_loadB1 0 rfl (ev_tmp rfl) rfl Tryz.isAgg22 rfl) ?_
    refine ch_plain rfl rfl (w_llen rfl Tryz.underlying22 (ev_tmp rfl)) ?_
    refine ch_plain rfl rfl (w_leq rfl (ev_tmp rfl) (ev_tmp rfl)) ?_
    refine ch_nil ?_
    refine awp_cond (ev_tmp rfl) ?_ ?_
    · intro h53
      have k53 := of_decide_eq_true h53; try simp only [List.length_map] at k53
      refine awp_seq ?_
      refine awp_region ?_
      refine sq_plain rfl rfl rfl (w_move rfl (ev_tmp rfl)) ?_
      refine sq_plain rfl rfl rfl (w_assign rfl (ev_tmp rfl)) ?_
      refine sq_nil ?_
      refine awp_ret ?_
      (refine retG [0] ((⟨c.p + 1, _⟩, _)) ?_ rfl (by first | (dsimp only; rfl) | rfl) (resR rfl (rv_tmp' rfl (by first | rfl | (refine congrArg AV.bool ?_; simp_all; done)))); first | exact ⟨Nat.le_refl _, hzb⟩ | exact ⟨Nat.le_refl _, Int.le_refl 0, (show (0 : Int) ≤ 255 by decide)⟩ | (rw [wrapS (bandI_255 _)]; exact ⟨Nat.le_refl _, bandI_255 _⟩))
    · intro h53
      have k53 := of_decide_eq_false h53; try simp only [List.length_map] at k53
      refine awp_skip ?_
      refine awp_seq ?_
      refine awp_region ?_
      refine sq_plain rfl rfl rfl (w_move rfl (ev_tmp rfl)) ?_
      refine sq_plain rfl rfl rfl (w_nilB rfl (ev_tmp rfl)) ?_
      refine sq_plain rfl rfl rfl (w_fldBn 2 rfl Tryz.underlying61 rfl Tryz.sizeOf59 (ev_tmp rfl) rfl) ?_
      refine sq_plain rfl rfl rfl (w_loadB1 0 rfl (ev_tmp rfl) rfl Tryz.isAgg59 rfl) ?_
      refine sq_plain rfl rfl rfl (w_shr rfl (ev_tmp rfl) ev_ci (by decide) (by decide)) ?_
      refine sq_plain rfl rfl rfl (w_band rfl (ev_tmp rfl) ev_ci) ?_
      refine sq_plain rfl rfl rfl (w_conv rfl (by kernel_rfl) Tryz.underlying3 (ev_tmp rfl)) ?_
      refine sq_plain rfl rfl rfl (w_assign rfl (ev_tmp rfl)) ?_
      refine sq_nil ?_
      refine awp_ret ?_
      (refine retG [0] ((⟨c.p + 1, _⟩, _)) ?_ rfl (by first | (dsimp only; rfl) | rfl) (resR rfl (rv_tmp' rfl (by first | rfl | (refine congrArg AV.bool ?_; simp_all; done)))); first | exact ⟨Nat.le_refl _, hzb⟩ | exact ⟨Nat.le_refl _, Int.le_refl 0, (show (0 : Int) ≤ 255 by decide)⟩ | (rw [wrapS (bandI_255 _)]; exact ⟨Nat.le_refl _, bandI_255 _⟩))
theorem curPick_own (b : Nat) (code : List Int) (hcode : ByteL code) (c : TCur) (n : Int) (hn : n ≤ 1000000) (hp : c.p ≤ 7000000) : GSpec Tryz.prog 77 [AV.ptr b 0, AV.int n] [.box b 61 (curC code c)] (fun x : TCur × Int => x.1.p ≤ c.p + 2 ∧ 0 ≤ x.2 ∧ (x.2 < n ∨ x.2 = 0)) (fun x => [.box b 61 (curC code x.1)]) (fun x => AV.int x.2) := by
  refine gspec_of_awp Tryz.func77 rfl Tryz.ntmps77 rfl ?_
  refine awp_seq ?_
  refine awp_region ?_
  refine sq_plain rfl rfl rfl (w_assign rfl ev_ci) ?_
  refine sq_nil ?_
  refine awp_seq ?_
  refine awp_seq ?_
  refine awp_region ?_
  refine sq_plain rfl rfl rfl (w_move rfl (ev_tmp rfl)) ?_
  refine sq_plain rfl rfl rfl (w_leq rfl (ev_tmp rfl) ev_ci) ?_
  refine sq_nil ?_
  refine awp_cond (ev_tmp rfl) ?_ ?_
  · intro h7
    have k7 := of_decide_eq_true h7; try simp only [List.length_map] at k7
    refine awp_seq ?_
    refine awp_region ?_
    refine sq_plain rfl rfl rfl (w_assign rfl ev_ci) ?_
    refine sq_nil ?_
    refine awp_ret ?_
    (refine retG [0] ((_, _)) ?_ rfl (by first | (dsimp only; rfl) | rfl) (resR rfl (rv_tmp' rfl (by first | rfl | (refine congrArg AV.bool ?_; simp_all; done)))); (dsimp only; first | omega | exact ⟨by omega, Int.tmod_nonneg _ (by omega), .inl (Int.tmod_lt_of_pos _ (by omega))⟩))
  · intro h7
    have k7 := of_decide_eq_false h7; try simp only [List.length_map] at k7
    refine awp_skip ?_
    refine awp_seq ?_
    refine awp_region ?_
    refine sq_plain rfl rfl rfl (w_move rfl (ev_tmp rfl)) ?_
    refine sq_callG [0] rfl rfl rfl rfl Tryz.call129 rfl (curNext_own _ _ hcode _ (by omega)) (evl_cons (ev_tmp rfl) evl_nil) rfl ?_
    intro x9 ok9
    refine sq_plain rfl rfl rfl (w_assign rfl (ev_tmp rfl)) ?_
    refine sq_nil ?_
    refine awp_seq ?_
    refine awp_seq ?_
    refine awp_region ?_
    refine sq_plain rfl rfl rfl (w_move rfl (ev_tmp rfl)) ?_
    refine sq_plain rfl rfl rfl (w_gtr rfl (ev_tmp rfl) ev_ci) ?_
    refine sq_nil ?_
    refine awp_cond (ev_tmp rfl) ?_ ?_
    · intro h11
      have k11 := of_decide_eq_true h11; try simp only [List.length_map] at k11
      refine awp_region ?_
      refine sq_plain rfl rfl rfl (w_move rfl (ev_tmp rfl)) ?_
      refine sq_plain rfl rfl rfl (w_muli rfl (ev_tmp rfl) ev_ci (by first | omega | ((try simp only [List.length_map, List.length_take, List.length_cons, List.length_nil, chunks_len, szR] at *); omega) | (have hc2 := hc; simp only [Bool.and_eq_true, Bool.or_eq_true, Bool.or_eq_false_iff, Bool.and_eq_false_iff, Bool.not_eq_true', Bool.not_eq_false', decide_eq_true_eq, decide_eq_false_iff_not, beq_iff_eq, bne_iff_ne, List.length_map, List.length_take] at hc2; omega))) ?_
      refine sq_plain rfl rfl rfl (w_move rfl (ev_tmp rfl)) ?_
      refine sq_callG [0] rfl rfl rfl rfl Tryz.call129 rfl (curNext_own _ _ hcode _ (by omega)) (evl_cons (ev_tmp rfl) evl_nil) rfl ?_
      intro x15 ok15
      refine sq_plain rfl rfl rfl (w_addi rfl (ev_tmp rfl) (ev_tmp rfl) (by first | omega | ((try simp only [List.length_map, List.length_take, List.length_cons, List.length_nil, chunks_len, szR] at *); omega) | (have hc2 := hc; simp only [Bool.and_eq_true, Bool.or_eq_true, Bool.or_eq_false_iff, Bool.and_eq_false_iff, Bool.not_eq_true', Bool.not_eq_false', decide_eq_true_eq, decide_eq_false_iff_not, beq_iff_eq, bne_iff_ne, List.length_map, List.length_take] at hc2; omega))) ?_
      refine sq_plain rfl rfl rfl (w_assign rfl (ev_tmp rfl)) ?_
      refine sq_nil ?_
      refine awp_seq ?_
      refine awp_region ?_
      refine sq_plain rfl rfl rfl (w_move rfl (ev_tmp rfl)) ?_
      refine sq_plain rfl rfl rfl (w_move rfl (ev_tmp rfl)) ?_
      refine sq_plain rfl rfl rfl (w_rem rfl (ev_tmp rfl) (ev_tmp rfl) (by omega)) ?_
      refine sq_plain rfl rfl rfl (w_assign rfl (ev_tmp rfl)) ?_
      refine sq_nil ?_
      refine awp_ret ?_
      (refine retG [0] ((_, _)) ?_ rfl (by first | (dsimp only; rfl) | rfl) (resR rfl (rv_tmp' rfl (by first | rfl | (refine congrArg AV.bool ?_; simp_all; done)))); (dsimp only; first | omega | exact ⟨by omega, Int.tmod_nonneg _ (by omega), .inl (Int.tmod_lt_of_pos _ (by omega))⟩))
    · intro h11
      have k11 := of_decide_eq_false h11; try simp only [List.length_map] at k11
      refine awp_skip ?_
      refine awp_seq ?_
      refine awp_region ?_
      refine sq_plain rfl rfl rfl (w_move rfl (ev_tmp rfl)) ?_
      refine sq_plain rfl rfl rfl (w_move rfl (ev_tmp rfl)) ?_
      refine sq_plain rfl rfl rfl (w_rem rfl (ev_tmp rfl) (ev_tmp rfl) (by omega)) ?_
      refine sq_plain rfl rfl rfl (w_assign rfl (ev_tmp rfl)) ?_
      refine sq_nil ?_
      refine awp_ret ?_
      (refine retG [0] ((_, _)) ?_ rfl (by first | (dsimp only; rfl) | rfl) (resR rfl (rv_tmp' rfl (by first | rfl | (refine congrArg AV.bool ?_; simp_all; done)))); (dsimp only; first | omega | exact ⟨by omega, Int.tmod_nonneg _ (by omega), .inl (Int.tmod_lt_of_pos _ (by omega))⟩))
theorem curOne_own (b : Nat) (code : List Int) (hcode : ByteL code) (c : TCur) (n : Int) (hn : n ≤ 1000000) (hp : c.p ≤ 7000000) : GSpec Tryz.prog 48 [AV.ptr b 0, AV.int n] [.box b 61 (curC code c)] (fun x : TCur × Bool => x.1.p ≤ c.p + 2) (fun x => [.box b 61 (curC code x.1)]) (fun x => AV.bool x.2) := by
  refine gspec_of_awp Tryz.func48 rfl Tryz.ntmps48 rfl ?_
  refine awp_seq ?_
  refine awp_region ?_
  refine sq_plain rfl rfl rfl (w_assign rfl ev_cb) ?_
  refine sq_nil ?_
  refine awp_seq ?_
  refine awp_region ?_
  refine sq_plain rfl rfl rfl (w_move rfl (ev_tmp rfl)) ?_
  refine sq_plain rfl rfl rfl (w_move rfl (ev_tmp rfl)) ?_
  refine sq_callG [0] rfl rfl rfl rfl Tryz.call77 rfl (curPick_own _ _ hcode _ _ (by omega) (by omega)) (evl_cons (ev_tmp rfl) (evl_cons (ev_tmp rfl) evl_nil)) rfl ?_
  intro x7 ok7
  refine sq_plain rfl rfl rfl (w_eql rfl (ev_tmp rfl) ev_ci) ?_
  refine sq_plain rfl rfl rfl (w_assign rfl (ev_tmp rfl)) ?_
  refine sq_nil ?_
  refine awp_ret ?_
  (refine retG [0] ((_, _)) ?_ rfl (by first | (dsimp only; rfl) | rfl) (resR rfl (rv_tmp' rfl (by rfl))); exact ok7.1)
theorem curOf_own (b : Nat) (code : List Int) (hcode : ByteL code) (c : TCur) (l : List Str) (hl : (∀ s ∈ l, s.length ≤ 64) ∧ 1 ≤ l.length ∧ l.length ≤ 1000) (hp : c.p ≤ 7000000) : GSpec Tryz.prog 52 [AV.ptr b 0, strs l] [.box b 61 (curC code c)] (fun x : TCur × Str => x.1.p ≤ c.p + 2 ∧ x.2.length ≤ 64) (fun x => [.box b 61 (curC code x.1)]) (fun x => AV.str x.2) := by
  obtain ⟨hls, hl1, hl2⟩ := hl
  refine gspec_of_awp Tryz.func52 rfl Tryz.ntmps52 rfl ?_
  refine awp_seq ?_
  refine awp_region ?_
  refine sq_plain rfl rfl rfl (w_assign rfl (ev_cs' (l := []) rfl)) ?_
  refine sq_nil ?_
  refine awp_seq ?_
  refine awp_region ?_
  refine sq_plain rfl rfl rfl (w_move rfl (ev_tmp rfl)) ?_
  refine sq_plain rfl rfl rfl (w_move rfl (ev_tmp rfl)) ?_
  refine sq_plain rfl rfl rfl (w_move rfl (ev_tmp rfl)) ?_
  refine sq_plain rfl rfl rfl (w_llen rfl Tryz.underlying34 (ev_tmp rfl)) ?_
  refine sq_callG [0] rfl rfl rfl rfl Tryz.call77 rfl (curPick_own _ _ hcode _ _ (by simp only [List.length_map]; omega) (by omega)) (evl_cons (ev_tmp rfl) (evl_cons (ev_tmp rfl) evl_nil)) rfl ?_
  intro x9 ok9
  simp only [List.length_map] at ok9
  obtain ⟨y, hy⟩ := get_some (show x9.2.toNat < l.length by omega)
  refine sq_plain rfl rfl rfl (w_idxm rfl Tryz.underlying34 Tryz.sizeOf9 (ev_tmp rfl) (ev_tmp rfl) hy (by omega)) ?_
  refine sq_plain rfl rfl rfl (w_loadE1 rfl (ev_tmp rfl) Tryz.isAgg9 rfl) ?_
  refine sq_plain rfl rfl rfl (w_assign rfl (ev_tmp rfl)) ?_
  refine sq_nil ?_
  refine awp_ret ?_
  (refine retG [0] ((_, _)) ?_ rfl (by first | (dsimp only; rfl) | rfl) (resR rfl (rv_tmp' rfl (by rfl))); exact ⟨ok9.1, hls _ (List.mem_of_getElem? hy)⟩)
theorem curAmong_own (b : Nat) (code : List Int) (hcode : ByteL code) (c : TCur) (l : List Int) (hl : 1 ≤ l.length ∧ l.length ≤ 1000) (hp : c.p ≤ 7000000) : GSpec Tryz.prog 132 [AV.ptr b 0, ints l] [.box b 61 (curC code c)] (fun x : TCur × Int => x.1.p ≤ c.p + 2 ∧ x.2 ∈ l) (fun x => [.box b 61 (curC code x.1)]) (fun x => AV.int x.2) := by
  obtain ⟨hl1, hl2⟩ := hl
  refine gspec_of_awp Tryz.func132 rfl Tryz.ntmps132 rfl ?_
  refine awp_seq ?_
  refine awp_region ?_
  refine sq_plain rfl rfl rfl (w_assign rfl ev_ci) ?_
  refine sq_nil ?_
  refine awp_seq ?_
  refine awp_region ?_
  refine sq_plain rfl rfl rfl (w_move rfl (ev_tmp rfl)) ?_
  refine sq_plain rfl rfl rfl (w_move rfl (ev_tmp rfl)) ?_
  refine sq_plain rfl rfl rfl (w_move rfl (ev_tmp rfl)) ?_
  refine sq_plain rfl rfl rfl (w_llen rfl Tryz.underlying113 (ev_tmp rfl)) ?_
  refine sq_callG [0] rfl rfl rfl rfl Tryz.call77 rfl (curPick_own _ _ hcode _ _ (by simp only [List.length_map]; omega) (by omega)) (evl_cons (ev_tmp rfl) (evl_cons (ev_tmp rfl) evl_nil)) rfl ?_
  intro x9 ok9
  simp only [List.length_map] at ok9
  obtain ⟨y, hy⟩ := get_some (show x9.2.toNat < l.length by omega)
  refine sq_plain rfl rfl rfl (w_idxm rfl Tryz.underlying113 Tryz.sizeOf3 (ev_tmp rfl) (ev_tmp rfl) hy (by omega)) ?_
  refine sq_plain rfl rfl rfl (w_loadE1 rfl (ev_tmp rfl) Tryz.isAgg3 rfl) ?_
  refine sq_plain rfl rfl rfl (w_assign rfl (ev_tmp rfl)) ?_
  refine sq_nil ?_
  refine awp_ret ?_
  (refine retG [0] ((_, _)) ?_ rfl (by first | (dsimp only; rfl) | rfl) (resR rfl (rv_tmp' rfl (by rfl))); exact ⟨ok9.1, List.mem_of_getElem? hy⟩)
theorem curKey_own (b : Nat) (code : List Int) (hcode : ByteL code) (c : TCur) (hp : c.p ≤ 6000000) : GSpec Tryz.prog 127 [AV.ptr b 0] [.box b 61 (curC code c)] (fun x : TCur × Str => x.1.p ≤ c.p + 2 ∧ x.2.length ≤ 64) (fun x => [.box b 61 (curC code x.1)]) (fun x => AV.str x.2) := by
  refine gspec_of_awp Tryz.func127 rfl Tryz.ntmps127 rfl ?_
  refine awp_seq ?_
  refine awp_region ?_
  refine sq_plain rfl rfl rfl (w_assign rfl (ev_cs' (l := []) rfl)) ?_
  refine sq_nil ?_
  refine awp_seq ?_
  refine awp_region ?_
  refine sq_plain rfl rfl rfl (w_move rfl (ev_tmp rfl)) ?_
  refine sq_plain rfl rfl rfl (w_bslice rfl Tryz.underlying34 Tryz.sizeOf9 Tryz.zeroValue9 rfl rfl rfl rfl (bp_cons (ev_cs' (l := [97]) rfl) (as_str _) (bp_cons (ev_cs' (l := [98]) rfl) (as_str _) (bp_cons (ev_cs' (l := [99]) rfl) (as_str _) (bp_cons (ev_cs' (l := [109]) rfl) (as_str _) (bp_cons (ev_cs' (l := [110]) rfl) (as_str _) (bp_cons (ev_cs' (l := [122]) rfl) (as_str _) (bp_cons (ev_cs' (l := [114, 47, 49]) rfl) (as_str _) (bp_cons (ev_cs' (l := [105, 47, 120, 47, 49]) rfl) (as_str _) bp_nil)))))))) rfl rfl) ?_
  refine sq_callG [0] rfl rfl rfl rfl Tryz.call52 rfl (curOf_own _ _ hcode _ ([[97], [98], [99], [109], [110], [122], [114, 47, 49], [105, 47, 120, 47, 49]] : List Str) (by decide) (by omega)) (evl_cons (ev_tmp rfl) (evl_cons (ev_tmp rfl) evl_nil)) rfl ?_
  intro x5 ok5
  refine sq_plain rfl rfl rfl (w_assign rfl (ev_tmp rfl)) ?_
  refine sq_nil ?_
  refine awp_ret ?_
  (refine retG [0] ((_, _)) ?_ rfl (by first | (dsimp only; rfl) | rfl) (resR rfl (rv_tmp' rfl (by rfl))); exact ok5)
end Go.Proofs.YtmlmmgeadombbaaGreatDoor

set_option linter.unusedVariables false
set_option linter.unusedSimpArgs false
set_option maxRecDepth 100000
namespace Go.Proofs.YtmlmmgeadombbaaGreatDoor
open Go Go.AV Go.M
attribute [local irreducible] OpW OpA OpS AWP FSpec ESpec GSpec OpE RetOk RetOkG RvDen Le Ev GuardIs SrcIs
theorem big_spec (code more : List Int) : FSpec Tryz.prog 5 [bytesI code, bytesI more] (AV.bool (bigB code more)) := by
  refine spec_of_awp Tryz.func5 rfl Tryz.ntmps5 rfl ?_
  refine awp_len (t := 0) rfl fun hl0 => ?_
  try simp only [List.length_map] at hl0
  refine awp_len (t := 1) rfl fun hl1 => ?_
  try simp only [List.length_map] at hl1
  refine awp_seq ?_
  refine awp_region ?_
  refine sq_plain rfl rfl rfl (w_assign rfl ev_cb) ?_
  refine sq_nil ?_
  refine awp_seq ?_
  refine awp_region ?_
  refine sq_plain rfl rfl rfl (w_move rfl (ev_tmp rfl)) ?_
  refine sq_plain rfl rfl rfl (w_llen rfl Tryz.underlying22 (ev_tmp rfl)) ?_
  refine sq_plain rfl rfl rfl (w_gtr rfl (ev_tmp rfl) ev_ci) ?_
  refine sq_plain rfl rfl rfl (w_move rfl (ev_tmp rfl)) ?_
  refine sq_grd rfl rfl (guard_f rfl rfl rfl) (fun hc => w_move rfl (ev_tmp rfl)) ?_
  refine sq_grd rfl rfl (guard_f rfl rfl rfl) (fun hc => w_llen rfl Tryz.underlying22 (ev_whn rfl hc)) ?_
  refine sq_grd rfl rfl (guard_f rfl rfl rfl) (fun hc => w_move rfl (ev_tmp rfl)) ?_
  refine sq_grd rfl rfl (guard_f rfl rfl rfl) (fun hc => w_llen rfl Tryz.underlying22 (ev_whn rfl hc)) ?_
  refine sq_grd rfl rfl (guard_f rfl rfl rfl) (fun hc => w_subi rfl ev_ci (ev_whn rfl hc) (by simp only [List.length_map]; omega)) ?_
  refine sq_grd rfl rfl (guard_f rfl rfl rfl) (fun hc => w_gtr rfl (ev_whn rfl hc) (ev_whn rfl hc)) ?_
  refine sq_plain rfl rfl rfl (w_or rfl (ev_tmp rfl) (evif_w rfl)) ?_
  refine sq_plain rfl rfl rfl (w_assign rfl (ev_tmp rfl)) ?_
  refine sq_nil ?_
  refine awp_ret ?_
  exact retR rfl (rv_tmp' rfl (by (refine congrArg AV.bool ?_; unfold bigB; simp only [List.length_map])))
end Go.Proofs.YtmlmmgeadombbaaGreatDoor

set_option linter.unusedVariables false
set_option linter.unusedSimpArgs false
set_option maxRecDepth 100000
namespace Go.Proofs.YtmlmmgeadombbaaGreatDoor
open Go Go.AV Go.M
attribute [local irreducible] OpW OpA OpS AWP FSpec ESpec GSpec OpE RetOk RetOkG RvDen Le Ev GuardIs SrcIs Int.tmod Int.tdiv IntKind.wrap bandI
end Go.Proofs.YtmlmmgeadombbaaGreatDoor

set_option linter.unusedVariables false
set_option linter.unusedSimpArgs false
set_option maxRecDepth 100000
namespace Go.M
open Go.AV
theorem spoil_a (t : Str) (i : Nat) (y : UInt8) : ((t.take i ++ [y]) ++ t.drop i).length = t.length + 1 := by
  simp only [List.length_append, List.length_cons, List.length_nil, List.length_take, List.length_drop]; omega
theorem spoil_b (t : Str) (i : Nat) (y : UInt8) : ((t.take i ++ [y]) ++ t.drop (i + 1)).length ≤ t.length + 1 := by
  simp only [List.length_append, List.length_cons, List.length_nil, List.length_take, List.length_drop]; omega
theorem spoil_c (t : Str) (i : Nat) : (t.take i ++ t.drop (i + 1)).length ≤ t.length + 1 := by
  simp only [List.length_append, List.length_take, List.length_drop]; omega
theorem sizeT_snoc (l : List Str) (x : Str) : sizeL (fun x : Str => x.length) (l ++ [x]) = sizeL (fun x : Str => x.length) l + x.length + 1 := by
  unfold sizeL; simp only [List.length_append, List.map_append, List.sum_append, List.length_cons, List.length_nil, List.map_cons, List.map_nil, List.sum_cons, List.sum_nil]; omega
theorem sizeT_rep (n : Nat) : sizeL (fun x : Str => x.length) (List.replicate n ([] : Str)) = n := by
  unfold sizeL; simp
theorem among_rd {x : Int} (h : x ∈ [0, 1, 127, 128, 16384, 1000000000]) : 0 ≤ x ∧ x ≤ 1000000000 := by
  simp at h; omega
theorem textsB_len2 {l : List Str} (h : sizeL (fun x : Str => x.length) l ≤ 1048576) : (textsB l).length ≤ 9 + 10 * sizeL (fun x : Str => x.length) l := by
  have h1 := sizeL_len (f := fun x : Str => x.length) (l := l)
  have h2 := numB_len9 (n := l.length) (by omega)
  have h3 := flatB_len (l := l) fun t ht => Nat.le_trans (sizeT_mem ht) h
  unfold textsB
  rw [List.length_append]; omega
end Go.M
namespace Go.Proofs.YtmlmmgeadombbaaGreatDoor
open Go Go.AV Go.M
attribute [local irreducible] OpW OpA OpS AWP FSpec ESpec GSpec OpE RetOk RetOkG RvDen Le Ev GuardIs SrcIs Int.tmod Int.tdiv IntKind.wrap bandI
theorem curSpoilt_own (b : Nat) (code : List Int) (hcode : ByteL code) (c : TCur) (t w : Str) (ht : t.length ≤ 500000) (hw : 1 ≤ w.length ∧ w.length ≤ 1000) (hp : c.p ≤ 5000000) : GSpec Tryz.prog 49 [AV.ptr b 0, AV.str t, AV.str w] [.box b 61 (curC code c)] (fun x : TCur × Str => x.1.p ≤ c.p + 20 ∧ x.2.length ≤ t.length + 2) (fun x => [.box b 61 (curC code x.1)]) (fun x => AV.str x.2) := by
  refine gspec_of_awp Tryz.func49 rfl Tryz.ntmps49 rfl ?_
  refine awp_seq ?_
  refine awp_region ?_
  refine sq_plain rfl rfl rfl (w_assign rfl (ev_cs' (l := []) rfl)) ?_
  refine sq_nil ?_
  refine awp_seq ?_
  refine awp_seq ?_
  refine awp_region ?_
  refine sq_plain rfl rfl rfl (w_move rfl (ev_tmp rfl)) ?_
  refine sq_callG [0] rfl rfl rfl rfl Tryz.call77 rfl (curPick_own _ _ hcode _ _ (by omega) (by omega)) (evl_cons (ev_tmp rfl) (evl_cons ev_ci evl_nil)) rfl ?_
  intro x11 ok11
  refine sq_plain rfl rfl rfl (w_addi rfl ev_ci (ev_tmp rfl) (by first | omega | ((try simp only [List.length_map, List.length_take, List.length_cons, List.length_nil, chunks_len, szR] at *); omega) | (have hc2 := hc; simp only [Bool.and_eq_true, Bool.or_eq_true, Bool.or_eq_false_iff, Bool.and_eq_false_iff, Bool.not_eq_true', Bool.not_eq_false', decide_eq_true_eq, decide_eq_false_iff_not, beq_iff_eq, bne_iff_ne, List.length_map, List.length_take] at hc2; omega))) ?_
  refine sq_plain rfl rfl rfl (w_assign rfl (ev_tmp rfl)) ?_
  refine sq_nil ?_
  refine awp_block ?_
  refine awp_loop_i3 [(0, _), (2, _), (6, _)] _ (fun (n : Int) (cc : TCur) (u : Str) => (0 ≤ n ∧ n ≤ 2) ∧ cc.p + 6 * n ≤ c.p + 16 ∧ (u.length : Int) + n ≤ t.length + 2) (fun (n : Int) (cc : TCur) (u : Str) => [.box b 61 (curC code cc)]) (fun (n : Int) (cc : TCur) (u : Str) => [(1, AV.str u), (7, AV.int n)]) (fun (n : Int) (cc : TCur) (u : Str) => n.toNat) (1 + x11.2) (x11.1) (t) ?_ (le_eq (by rfl) ⟨rfl, rfl, rfl, rfl, rfl, trivial⟩) ?_
  · exact ⟨by omega, by omega, by omega⟩
  intro n cc u hinv
  refine awp_seq ?_
  refine awp_seq ?_
  refine awp_region ?_
  refine sq_plain rfl rfl rfl (w_move rfl (ev_tmp rfl)) ?_
  refine sq_plain rfl rfl rfl (w_gtr rfl (ev_tmp rfl) ev_ci) ?_
  refine sq_plain rfl rfl rfl (w_move rfl (ev_tmp rfl)) ?_
  refine sq_grd rfl rfl (guard_t rfl rfl rfl) (fun hc => w_move rfl (ev_tmp rfl)) ?_
  refine sq_grd rfl rfl (guard_t rfl rfl rfl) (fun hc => w_slen rfl Tryz.underlying9 (ev_whn rfl hc)) ?_
  refine sq_grd rfl rfl (guard_t rfl rfl rfl) (fun hc => w_gtr rfl (ev_whn rfl hc) ev_ci) ?_
  refine sq_plain rfl rfl rfl (w_and rfl (ev_tmp rfl) (evif_w rfl)) ?_
  refine sq_nil ?_
  refine awp_cond (ev_tmp rfl) ?_ ?_
  · intro h19
    simp only [Bool.and_eq_true, decide_eq_true_eq] at h19
    obtain ⟨hn0, hu0⟩ := h19
    refine awp_skip ?_
    refine awp_seq ?_
    refine awp_block ?_
    refine awp_seq ?_
    refine awp_region ?_
    refine sq_plain rfl rfl rfl (w_move rfl (ev_tmp rfl)) ?_
    refine sq_plain rfl rfl rfl (w_move rfl (ev_tmp rfl)) ?_
    refine sq_plain rfl rfl rfl (w_slen rfl Tryz.underlying9 (ev_tmp rfl)) ?_
    refine sq_callG [0] rfl rfl rfl rfl Tryz.call77 rfl (curPick_own _ _ hcode _ _ (by omega) (by omega)) (evl_cons (ev_tmp rfl) (evl_cons (ev_tmp rfl) evl_nil)) rfl ?_
    intro x25 ok25
    refine sq_plain rfl rfl rfl (w_assign rfl (ev_tmp rfl)) ?_
    refine sq_nil ?_
    refine awp_seq ?_
    refine awp_region ?_
    refine sq_plain rfl rfl rfl (w_move rfl (ev_tmp rfl)) ?_
    refine sq_plain rfl rfl rfl (w_move rfl (ev_tmp rfl)) ?_
    refine sq_plain rfl rfl rfl (w_move rfl (ev_tmp rfl)) ?_
    refine sq_plain rfl rfl rfl (w_slen rfl Tryz.underlying9 (ev_tmp rfl)) ?_
    refine sq_callG [0] rfl rfl rfl rfl Tryz.call77 rfl (curPick_own _ _ hcode _ _ (by omega) (by omega)) (evl_cons (ev_tmp rfl) (evl_cons (ev_tmp rfl) evl_nil)) rfl ?_
    intro x30 ok30
    obtain ⟨y, hy⟩ := get_some (show x30.2.toNat < w.length by omega)
    refine sq_plain rfl rfl rfl (w_sidx rfl Tryz.underlying9 (ev_tmp rfl) (ev_tmp rfl) (by omega) hy) ?_
    refine sq_plain rfl rfl rfl (w_bslice rfl Tryz.underlying22 Tryz.sizeOf5 Tryz.zeroValue5 rfl rfl rfl rfl (bp_cons (ev_tmp rfl) (as_ik _ _) bp_nil) rfl rfl) ?_
    refine sq_plain rfl rfl rfl (w_convB (bs := [y]) rfl Tryz.underlying22 Tryz.underlying5 Tryz.underlying9 (ev_tmp rfl)) ?_
    refine sq_plain rfl rfl rfl (w_assign rfl (ev_tmp rfl)) ?_
    refine sq_nil ?_
    refine awp_seq ?_
    refine awp_region ?_
    refine sq_plain rfl rfl rfl (w_move rfl (ev_tmp rfl)) ?_
    refine sq_callG [0] rfl rfl rfl rfl Tryz.call77 rfl (curPick_own _ _ hcode _ _ (by omega) (by omega)) (evl_cons (ev_tmp rfl) (evl_cons ev_ci evl_nil)) rfl ?_
    intro x35 ok35
    refine sq_nil ?_
    refine awp_block ?_
    refine awp_seq ?_
    refine awp_region ?_
    refine sq_plain rfl rfl rfl (w_eql rfl (ev_tmp rfl) ev_ci) ?_
    refine sq_plain rfl rfl rfl (w_assign rfl (ev_tmp rfl)) ?_
    refine sq_nil ?_
    refine awp_cond (ev_tmp rfl) ?_ ?_
    · intro h44
      have k44 := eq_of_beqt h44; try simp only [List.length_map] at k44
      refine awp_region_any (by kernel_rfl) (by kernel_rfl) rfl ?_
      refine ch_plain rfl rfl (w_move rfl (ev_tmp rfl)) ?_
      refine ch_plain rfl rfl (w_move rfl (ev_tmp rfl)) ?_
      refine ch_plain rfl rfl (w_ssl_hi rfl Tryz.underlying9 (ev_tmp rfl) (ev_tmp rfl) (by first | omega | ((try simp only [List.length_map, List.length_take, List.length_cons, List.length_nil, chunks_len, szR] at *); omega) | (have hc2 := hc; simp only [Bool.and_eq_true, Bool.or_eq_true, Bool.or_eq_false_iff, Bool.and_eq_false_iff, Bool.not_eq_true', Bool.not_eq_false', decide_eq_true_eq, decide_eq_false_iff_not, beq_iff_eq, bne_iff_ne, List.length_map, List.length_take] at hc2; omega)) (by first | omega | ((try simp only [List.length_map, List.length_take, List.length_cons, List.length_nil, chunks_len, szR] at *); omega) | (have hc2 := hc; simp only [Bool.and_eq_true, Bool.or_eq_true, Bool.or_eq_false_iff, Bool.and_eq_false_iff, Bool.not_eq_true', Bool.not_eq_false', decide_eq_true_eq, decide_eq_false_iff_not, beq_iff_eq, bne_iff_ne, List.length_map, List.length_take] at hc2; omega))) ?_
      refine ch_plain rfl rfl (w_move rfl (ev_tmp rfl)) ?_
      refine ch_plain rfl rfl (w_cat rfl (ev_tmp rfl) (ev_tmp rfl) (by first | omega | (simp only [List.length_append, List.length_take, List.length_drop, List.length_cons, List.length_nil]; omega))) ?_
      refine ch_plain rfl rfl (w_move rfl (ev_tmp rfl)) ?_
      refine ch_plain rfl rfl (w_move rfl (ev_tmp rfl)) ?_
      refine ch_plain rfl rfl (w_ssl_lo rfl Tryz.underlying9 (ev_tmp rfl) (ev_tmp rfl) (by first | omega | ((try simp only [List.length_map, List.length_take, List.length_cons, List.length_nil, chunks_len, szR] at *); omega) | (have hc2 := hc; simp only [Bool.and_eq_true, Bool.or_eq_true, Bool.or_eq_false_iff, Bool.and_eq_false_iff, Bool.not_eq_true', Bool.not_eq_false', decide_eq_true_eq, decide_eq_false_iff_not, beq_iff_eq, bne_iff_ne, List.length_map, List.length_take] at hc2; omega)) (by first | omega | ((try simp only [List.length_map, List.length_take, List.length_cons, List.length_nil, chunks_len, szR] at *); omega) | (have hc2 := hc; simp only [Bool.and_eq_true, Bool.or_eq_true, Bool.or_eq_false_iff, Bool.and_eq_false_iff, Bool.not_eq_true', Bool.not_eq_false', decide_eq_true_eq, decide_eq_false_iff_not, beq_iff_eq, bne_iff_ne, List.length_map, List.length_take] at hc2; omega))) ?_
      refine ch_plain rfl rfl (w_cat rfl (ev_tmp rfl) (ev_tmp rfl) (by first | omega | (simp only [List.length_append, List.length_take, List.length_drop, List.length_cons, List.length_nil]; omega))) ?_
      refine ch_plain rfl rfl (w_assign rfl (ev_tmp rfl)) ?_
      refine ch_nil ?_
      refine awp_region ?_
      refine sq_plain rfl rfl rfl (w_move rfl (ev_tmp rfl)) ?_
      refine sq_plain rfl rfl rfl (w_subi rfl (ev_tmp rfl) ev_ci (by first | omega | ((try simp only [List.length_map, List.length_take, List.length_cons, List.length_nil, chunks_len, szR] at *); omega) | (have hc2 := hc; simp only [Bool.and_eq_true, Bool.or_eq_true, Bool.or_eq_false_iff, Bool.and_eq_false_iff, Bool.not_eq_true', Bool.not_eq_false', decide_eq_true_eq, decide_eq_false_iff_not, beq_iff_eq, bne_iff_ne, List.length_map, List.length_take] at hc2; omega))) ?_
      refine sq_plain rfl rfl rfl (w_assign rfl (ev_tmp rfl)) ?_
      refine sq_nil ?_
      refine round_end3 n cc u (n - 1) (x35.1) ((u.take x25.2.toNat ++ [y]) ++ u.drop x25.2.toNat) ?_ ?_ (le_eq (by rfl) ⟨rfl, rfl, rfl, rfl, rfl, trivial⟩)
      · exact ⟨by omega, by omega, by (have := spoil_a u x25.2.toNat y; omega)⟩
      · omega
    · intro h44
      have k44 := ne_of_beqf h44; try simp only [List.length_map] at k44
      refine awp_seq ?_
      refine awp_region ?_
      refine sq_plain rfl rfl rfl (w_eql rfl (ev_tmp rfl) ev_ci) ?_
      refine sq_plain rfl rfl rfl (w_assign rfl (ev_tmp rfl)) ?_
      refine sq_nil ?_
      refine awp_cond (ev_tmp rfl) ?_ ?_
      · intro h55
        have k55 := eq_of_beqt h55; try simp only [List.length_map] at k55
        refine awp_region_any (by kernel_rfl) (by kernel_rfl) rfl ?_
        refine ch_plain rfl rfl (w_move rfl (ev_tmp rfl)) ?_
        refine ch_plain rfl rfl (w_move rfl (ev_tmp rfl)) ?_
        refine ch_plain rfl rfl (w_ssl_hi rfl Tryz.underlying9 (ev_tmp rfl) (ev_tmp rfl) (by first | omega | ((try simp only [List.length_map, List.length_take, List.length_cons, List.length_nil, chunks_len, szR] at *); omega) | (have hc2 := hc; simp only [Bool.and_eq_true, Bool.or_eq_true, Bool.or_eq_false_iff, Bool.and_eq_false_iff, Bool.not_eq_true', Bool.not_eq_false', decide_eq_true_eq, decide_eq_false_iff_not, beq_iff_eq, bne_iff_ne, List.length_map, List.length_take] at hc2; omega)) (by first | omega | ((try simp only [List.length_map, List.length_take, List.length_cons, List.length_nil, chunks_len, szR] at *); omega) | (have hc2 := hc; simp only [Bool.and_eq_true, Bool.or_eq_true, Bool.or_eq_false_iff, Bool.and_eq_false_iff, Bool.not_eq_true', Bool.not_eq_false', decide_eq_true_eq, decide_eq_false_iff_not, beq_iff_eq, bne_iff_ne, List.length_map, List.length_take] at hc2; omega))) ?_
        refine ch_plain rfl rfl (w_move rfl (ev_tmp rfl)) ?_
        refine ch_plain rfl rfl (w_cat rfl (ev_tmp rfl) (ev_tmp rfl) (by first | omega | (simp only [List.length_append, List.length_take, List.length_drop, List.length_cons, List.length_nil]; omega))) ?_
        refine ch_plain rfl rfl (w_move rfl (ev_tmp rfl)) ?_
        refine ch_plain rfl rfl (w_move rfl (ev_tmp rfl)) ?_
        refine ch_plain rfl rfl (w_addi rfl (ev_tmp rfl) ev_ci (by first | omega | ((try simp only [List.length_map, List.length_take, List.length_cons, List.length_nil, chunks_len, szR] at *); omega) | (have hc2 := hc; simp only [Bool.and_eq_true, Bool.or_eq_true, Bool.or_eq_false_iff, Bool.and_eq_false_iff, Bool.not_eq_true', Bool.not_eq_false', decide_eq_true_eq, decide_eq_false_iff_not, beq_iff_eq, bne_iff_ne, List.length_map, List.length_take] at hc2; omega))) ?_
        refine ch_plain rfl rfl (w_ssl_lo rfl Tryz.underlying9 (ev_tmp rfl) (ev_tmp rfl) (by first | omega | ((try simp only [List.length_map, List.length_take, List.length_cons, List.length_nil, chunks_len, szR] at *); omega) | (have hc2 := hc; simp only [Bool.and_eq_true, Bool.or_eq_true, Bool.or_eq_false_iff, Bool.and_eq_false_iff, Bool.not_eq_true', Bool.not_eq_false', decide_eq_true_eq, decide_eq_false_iff_not, beq_iff_eq, bne_iff_ne, List.length_map, List.length_take] at hc2; omega)) (by first | omega | ((try simp only [List.length_map, List.length_take, List.length_cons, List.length_nil, chunks_len, szR] at *); omega) | (have hc2 := hc; simp only [Bool.and_eq_true, Bool.or_eq_true, Bool.or_eq_false_iff, Bool.and_eq_false_iff, Bool.not_eq_true', Bool.not_eq_false', decide_eq_true_eq, decide_eq_false_iff_not, beq_iff_eq, bne_iff_ne, List.length_map, List.length_take] at hc2; omega))) ?_
        refine ch_plain rfl rfl (w_cat rfl (ev_tmp rfl) (ev_tmp rfl) (by first | omega | (simp only [List.length_append, List.length_take, List.length_drop, List.length_cons, List.length_nil]; omega))) ?_
        refine ch_plain rfl rfl (w_assign rfl (ev_tmp rfl)) ?_
        refine ch_nil ?_
        refine awp_region ?_
        refine sq_plain rfl rfl rfl (w_move rfl (ev_tmp rfl)) ?_
        refine sq_plain rfl rfl rfl (w_subi rfl (ev_tmp rfl) ev_ci (by first | omega | ((try simp only [List.length_map, List.length_take, List.length_cons, List.length_nil, chunks_len, szR] at *); omega) | (have hc2 := hc; simp only [Bool.and_eq_true, Bool.or_eq_true, Bool.or_eq_false_iff, Bool.and_eq_false_iff, Bool.not_eq_true', Bool.not_eq_false', decide_eq_true_eq, decide_eq_false_iff_not, beq_iff_eq, bne_iff_ne, List.length_map, List.length_take] at hc2; omega))) ?_
        refine sq_plain rfl rfl rfl (w_assign rfl (ev_tmp rfl)) ?_
        refine sq_nil ?_
        refine round_end3 n cc u (n - 1) (x35.1) ((u.take x25.2.toNat ++ [y]) ++ u.drop (x25.2 + 1).toNat) ?_ ?_ (le_eq (by rfl) ⟨rfl, rfl, rfl, rfl, rfl, trivial⟩)
        · exact ⟨by omega, by omega, by (rw [show (x25.2 + 1).toNat = x25.2.toNat + 1 by omega]; have := spoil_b u x25.2.toNat y; omega)⟩
        · omega
      · intro h55
        have k55 := ne_of_beqf h55; try simp only [List.length_map] at k55
        refine awp_region_any (by kernel_rfl) (by kernel_rfl) rfl ?_
        refine ch_plain rfl rfl (w_move rfl (ev_tmp rfl)) ?_
        refine ch_plain rfl rfl (w_move rfl (ev_tmp rfl)) ?_
        refine ch_plain rfl rfl (w_ssl_hi rfl Tryz.underlying9 (ev_tmp rfl) (ev_tmp rfl) (by first | omega | ((try simp only [List.length_map, List.length_take, List.length_cons, List.length_nil, chunks_len, szR] at *); omega) | (have hc2 := hc; simp only [Bool.and_eq_true, Bool.or_eq_true, Bool.or_eq_false_iff, Bool.and_eq_false_iff, Bool.not_eq_true', Bool.not_eq_false', decide_eq_true_eq, decide_eq_false_iff_not, beq_iff_eq, bne_iff_ne, List.length_map, List.length_take] at hc2; omega)) (by first | omega | ((try simp only [List.length_map, List.length_take, List.length_cons, List.length_nil, chunks_len, szR] at *); omega) | (have hc2 := hc; simp only [Bool.and_eq_true, Bool.or_eq_true, Bool.or_eq_false_iff, Bool.and_eq_false_iff, Bool.not_eq_true', Bool.not_eq_false', decide_eq_true_eq, decide_eq_false_iff_not, beq_iff_eq, bne_iff_ne, List.length_map, List.length_take] at hc2; omega))) ?_
        refine ch_plain rfl rfl (w_move rfl (ev_tmp rfl)) ?_
        refine ch_plain rfl rfl (w_move rfl (ev_tmp rfl)) ?_
        refine ch_plain rfl rfl (w_addi rfl (ev_tmp rfl) ev_ci (by first | omega | ((try simp only [List.length_map, List.length_take, List.length_cons, List.length_nil, chunks_len, szR] at *); omega) | (have hc2 := hc; simp only [Bool.and_eq_true, Bool.or_eq_true, Bool.or_eq_false_iff, Bool.and_eq_false_iff, Bool.not_eq_true', Bool.not_eq_false', decide_eq_true_eq, decide_eq_false_iff_not, beq_iff_eq, bne_iff_ne, List.length_map, List.length_take] at hc2; omega))) ?_
        refine ch_plain rfl rfl (w_ssl_lo rfl Tryz.underlying9 (ev_tmp rfl) (ev_tmp rfl) (by first | omega | ((try simp only [List.length_map, List.length_take, List.length_cons, List.length_nil, chunks_len, szR] at *); omega) | (have hc2 := hc; simp only [Bool.and_eq_true, Bool.or_eq_true, Bool.or_eq_false_iff, Bool.and_eq_false_iff, Bool.not_eq_true', Bool.not_eq_false', decide_eq_true_eq, decide_eq_false_iff_not, beq_iff_eq, bne_iff_ne, List.length_map, List.length_take] at hc2; omega)) (by first | omega | ((try simp only [List.length_map, List.length_take, List.length_cons, List.length_nil, chunks_len, szR] at *); omega) | (have hc2 := hc; simp only [Bool.and_eq_true, Bool.or_eq_true, Bool.or_eq_false_iff, Bool.and_eq_false_iff, Bool.not_eq_true', Bool.not_eq_false', decide_eq_true_eq, decide_eq_false_iff_not, beq_iff_eq, bne_iff_ne, List.length_map, List.length_take] at hc2; omega))) ?_
        refine ch_plain rfl rfl (w_cat rfl (ev_tmp rfl) (ev_tmp rfl) (by first | omega | (simp only [List.length_append, List.length_take, List.length_drop, List.length_cons, List.length_nil]; omega))) ?_
        refine ch_plain rfl rfl (w_assign rfl (ev_tmp rfl)) ?_
        refine ch_nil ?_
        refine awp_region ?_
        refine sq_plain rfl rfl rfl (w_move rfl (ev_tmp rfl)) ?_
        refine sq_plain rfl rfl rfl (w_subi rfl (ev_tmp rfl) ev_ci (by first | omega | ((try simp only [List.length_map, List.length_take, List.length_cons, List.length_nil, chunks_len, szR] at *); omega) | (have hc2 := hc; simp only [Bool.and_eq_true, Bool.or_eq_true, Bool.or_eq_false_iff, Bool.and_eq_false_iff, Bool.not_eq_true', Bool.not_eq_false', decide_eq_true_eq, decide_eq_false_iff_not, beq_iff_eq, bne_iff_ne, List.length_map, List.length_take] at hc2; omega))) ?_
        refine sq_plain rfl rfl rfl (w_assign rfl (ev_tmp rfl)) ?_
        refine sq_nil ?_
        refine round_end3 n cc u (n - 1) (x35.1) (u.take x25.2.toNat ++ u.drop (x25.2 + 1).toNat) ?_ ?_ (le_eq (by rfl) ⟨rfl, rfl, rfl, rfl, rfl, trivial⟩)
        · exact ⟨by omega, by omega, by (rw [show (x25.2 + 1).toNat = x25.2.toNat + 1 by omega]; have := spoil_c u x25.2.toNat; omega)⟩
        · omega
  · intro h19
    refine awp_exit ?_
    refine awp_seq ?_
    refine awp_region ?_
    refine sq_plain rfl rfl rfl (w_move rfl (ev_tmp rfl)) ?_
    refine sq_plain rfl rfl rfl (w_assign rfl (ev_tmp rfl)) ?_
    refine sq_nil ?_
    refine awp_ret ?_
    (refine retG [0] ((cc, u)) ?_ rfl (by first | (dsimp only; rfl) | rfl) (resR rfl (rv_tmp' rfl (by rfl))); exact ⟨show cc.p ≤ _ by omega, show u.length ≤ _ by omega⟩)
end Go.Proofs.YtmlmmgeadombbaaGreatDoor

set_option linter.unusedVariables false
set_option linter.unusedSimpArgs false
namespace Go.M
def cpDel (m : TMove) (w : TWrite) : Bool := !m.Over && !(Op.bytesLess w.Key m.Last || w.Key == m.Last)
def cpWant (m : TMove) (w : TWrite) : Bool := m.Over || (Op.bytesLess w.Key m.Last || w.Key == m.Last)
def isCopied (m : TMove) : Bool × Bool := if (!goodMove m) = true then (false, false) else ((m.Phase == 2) || decide (m.From.filter (fun w => !cpDel m w) = m.To), true)
def l22Copied (m : TMove) : Bool := if m.Phase = 2 then true else decide (m.From.filter (cpWant m) = m.To)
def isCopiedS (m : TMove) : Bool × Bool := if (!goodMoveS m) = true then (false, false) else (l22Copied m, true)
theorem cpDel_eq (m : TMove) : (fun w => !cpDel m w) = cpWant m := by
  funext w; unfold cpDel cpWant
  cases m.Over <;> cases Op.bytesLess w.Key m.Last <;> cases (w.Key == m.Last) <;> rfl
theorem isCopied_eq (m : TMove) : isCopied m = isCopiedS m := by
  unfold isCopied isCopiedS l22Copied
  rw [goodMove_eq, cpDel_eq]
  by_cases h : m.Phase = 2
  · simp [h]
  · have e : (m.Phase == 2) = false := beq_false_of_ne h
    simp [h, e]
def mkMove (low high : Str) (rows : List TWrite) : TMove := ⟨low, high, 1, rows, [], [], false⟩
def noMove : TMove := ⟨[], [], 0, [], [], [], false⟩
def newMove (low high : Str) (rows : List TWrite) : TMove × Bool := if (!goodMove (mkMove low high rows)) = true then (noMove, false) else (mkMove low high rows, true)
def newMoveS (low high : Str) (rows : List TWrite) : TMove × Bool := if (!l22Ends low high || !l22Rows low high rows) = true then (noMove, false) else (mkMove low high rows, true)
theorem newMove_eq (low high : Str) (rows : List TWrite) : newMove low high rows = newMoveS low high rows := by
  unfold newMove newMoveS
  have h : goodMove (mkMove low high rows) = (l22Ends low high && l22Rows low high rows) := by
    rw [goodMove_eq]
    unfold goodMoveS mkMove
    have h1 : l22Rows low high [] = true := rfl
    have h2 : within 1 1 2 = true := rfl
    simp only [h1, h2]
    cases l22Ends low high <;> cases l22Rows low high rows <;> rfl
  rw [h]
  cases l22Ends low high <;> cases l22Rows low high rows <;> rfl
theorem newMove_len (low high : Str) (rows : List TWrite) : (newMove low high rows).1.From.length ≤ rows.length ∧ (newMove low high rows).1.To.length = 0 := by
  unfold newMove; split
  · exact ⟨Nat.zero_le _, rfl⟩
  · exact ⟨Nat.le_refl _, rfl⟩
end Go.M

set_option linter.unusedVariables false
set_option linter.unusedSimpArgs false
namespace Go.M
/-- A write put into rising rows, in the place of one of its key. -/
def ins : List TWrite → TWrite → List TWrite
  | [], w => [w]
  | x :: l, w => if Op.bytesLess x.Key w.Key = true then x :: ins l w else if x.Key = w.Key then w :: l else w :: x :: l
theorem ins_at {w : TWrite} : ∀ {l : List TWrite} {p : Nat}, p ≤ l.length → (∀ i x, i < p → l[i]? = some x → Op.bytesLess x.Key w.Key = true) → (∀ x, l[p]? = some x → Op.bytesLess x.Key w.Key = false) →
    ins l w = if (∃ x, l[p]? = some x ∧ x.Key = w.Key) then l.set p w else l.take p ++ w :: l.drop p
  | [], p, hp, _, _ => by simp at hp; subst hp; simp [ins]
  | x :: l, 0, _, _, h2 => by
    have h := h2 x rfl
    unfold ins
    rw [h]
    by_cases hk : x.Key = w.Key
    · rw [if_neg (by decide), if_pos hk, if_pos ⟨x, rfl, hk⟩]; rfl
    · rw [if_neg (by decide), if_neg hk, if_neg (fun ⟨y, hy, hyk⟩ => by simp at hy; subst hy; exact hk hyk)]; rfl
  | x :: l, p + 1, hp, h1, h2 => by
    have h := h1 0 x (by omega) rfl
    unfold ins
    rw [if_pos h, ins_at (l := l) (p := p) (by simpa using hp) (fun i y hi hy => h1 (i + 1) y (by omega) (by simpa using hy)) (fun y hy => h2 y (by simpa using hy))]
    simp only [List.getElem?_cons_succ, List.set_cons_succ, List.take_succ_cons, List.drop_succ_cons]
    split <;> simp
def putW (l : List TWrite) (w : TWrite) : List TWrite := if wHas l w.Key = true then l.set (wPos l w.Key) w else l.take (wPos l w.Key) ++ w :: l.drop (wPos l w.Key)
theorem bs_le {α : Type} (f : α → Int) (l : List α) : ∀ (d i j : Nat), j - i = d → i ≤ j → j ≤ l.length → bs f l i j ≤ j := by
  intro d
  induction d using Nat.strongRecOn with
  | _ d ih =>
    intro i j hd hij hjl
    by_cases h : i < j
    · obtain ⟨x, hx⟩ := Go.AV.get_some (show (i + j) / 2 < l.length by omega)
      by_cases hf : f x < 0
      · rw [bs_lo h hx hf]
        exact ih (j - ((i + j) / 2 + 1)) (by omega) _ _ rfl (by omega) hjl
      · rw [bs_hi h hx hf]
        exact Nat.le_trans (ih ((i + j) / 2 - i) (by omega) _ _ rfl (by omega) (by omega)) (by omega)
    · rw [bs_end h]; exact hij
theorem wPos_le (l : List TWrite) (k : Str) : wPos l k ≤ l.length := bs_le _ _ _ _ _ rfl (Nat.zero_le _) (Nat.le_refl _)
theorem wHas_iff {l : List TWrite} {k : Str} : wHas l k = true ↔ ∃ x, l[wPos l k]? = some x ∧ x.Key = k := by
  unfold wHas bsAt
  cases h : l[wPos l k]? with
  | none => simp
  | some x => simp [wCmp, cmpStr_zero]
theorem putW_ins {l : List TWrite} (h : adj wLess l = true) (w : TWrite) : putW l w = ins l w := by
  obtain ⟨h1, h2⟩ := wPos_spec h w.Key
  rw [ins_at (wPos_le l w.Key) h1 h2]
  unfold putW
  by_cases hw : wHas l w.Key = true
  · rw [if_pos hw, if_pos (wHas_iff.1 hw)]
  · rw [if_neg hw, if_neg (fun h => hw (wHas_iff.2 h))]
/-- Where the reference's search from behind stops. -/
def scanW (l : List TWrite) (k : Str) : Nat → Nat
  | 0 => 0
  | n + 1 => match l[n]? with
    | some x => if Op.bytesLess k x.Key = true then scanW l k n else n + 1
    | none => n + 1
def hitW (l : List TWrite) (k : Str) : Nat → Bool
  | 0 => false
  | n + 1 => match l[n]? with
    | some x => x.Key == k
    | none => false
def putWS (l : List TWrite) (w : TWrite) : List TWrite :=
  if hitW l w.Key (scanW l w.Key l.length) = true then l.set (scanW l w.Key l.length - 1) w else l.take (scanW l w.Key l.length) ++ w :: l.drop (scanW l w.Key l.length)
theorem scanW_le (l : List TWrite) (k : Str) : ∀ n, scanW l k n ≤ n
  | 0 => Nat.le_refl _
  | n + 1 => by
    unfold scanW
    split
    · split
      · exact Nat.le_succ_of_le (scanW_le l k n)
      · exact Nat.le_refl _
    · exact Nat.le_refl _
theorem scanW_spec (l : List TWrite) (k : Str) : ∀ n, n ≤ l.length → (∀ i x, scanW l k n ≤ i → i < n → l[i]? = some x → Op.bytesLess k x.Key = true) ∧ (∀ x, 0 < scanW l k n → l[scanW l k n - 1]? = some x → Op.bytesLess k x.Key = false)
  | 0, _ => ⟨fun i x h1 h2 => by omega, fun x h => by simp [scanW] at h⟩
  | n + 1, hn => by
    obtain ⟨x, hx⟩ := Go.AV.get_some (show n < l.length by omega)
    have ih := scanW_spec l k n (by omega)
    unfold scanW
    simp only [hx]
    by_cases hb : Op.bytesLess k x.Key = true
    · rw [if_pos hb]
      refine ⟨fun i y h1 h2 hy => ?_, ih.2⟩
      rcases Nat.lt_or_ge i n with h3 | h3
      · exact ih.1 i y h1 h3 hy
      · have : i = n := by omega
        subst this
        rw [hx] at hy; injection hy with hy; subst hy; exact hb
    · rw [if_neg hb]
      refine ⟨fun i y h1 h2 hy => by omega, fun y _ hy => ?_⟩
      rw [Nat.add_sub_cancel, hx] at hy; injection hy with hy; subst hy
      simpa using hb
theorem putWS_ins {l : List TWrite} (h : adj wLess l = true) (w : TWrite) : putWS l w = ins l w := by
  obtain ⟨h1, h2⟩ := scanW_spec l w.Key l.length (Nat.le_refl _)
  have hle := scanW_le l w.Key l.length
  unfold putWS
  generalize scanW l w.Key l.length = k at *
  cases k with
  | zero =>
    rw [if_neg (by simp [hitW]), ins_at (l := l) (p := 0) (Nat.zero_le _) (fun i x h => by omega) (fun x hx => by
      have h3 := h1 0 x (Nat.le_refl _) (List.getElem?_eq_some_iff.1 hx).1 hx
      cases hb : Op.bytesLess x.Key w.Key with
      | false => rfl
      | true => have := bytesLess_trans h3 hb; rw [bytesLess_irrefl] at this; cases this)]
    rw [if_neg]
    intro ⟨x, hx, hk⟩
    have h3 := h1 0 x (Nat.le_refl _) (List.getElem?_eq_some_iff.1 hx).1 hx
    rw [hk, bytesLess_irrefl] at h3; cases h3
  | succ n =>
    obtain ⟨x, hx⟩ := Go.AV.get_some (show n < l.length by omega)
    have h3 := h2 x (by omega) (by simpa using hx)
    have htri := bytesLess_tri x.Key w.Key
    by_cases hk : x.Key = w.Key
    · rw [if_pos (by simp [hitW, hx, hk]), Nat.add_sub_cancel]
      rw [ins_at (l := l) (p := n) (by omega) (fun i y hi hy => by have := adj_get wLess_trans h hi hy hx; unfold wLess at this; rw [hk] at this; exact this) (fun y hy => by rw [hx] at hy; injection hy with hy; subst hy; rw [hk, bytesLess_irrefl])]
      rw [if_pos ⟨x, hx, hk⟩]
    · have hlt : Op.bytesLess x.Key w.Key = true := by rw [h3] at htri; cases hb : Op.bytesLess x.Key w.Key with | true => rfl | false => (rw [hb] at htri; simp at htri; exact absurd htri.symm hk)
      rw [if_neg (by simp [hitW, hx, hk])]
      have hno : ∀ y, l[n + 1]? = some y → Op.bytesLess w.Key y.Key = true := fun y hy => h1 (n + 1) y (Nat.le_refl _) (List.getElem?_eq_some_iff.1 hy).1 hy
      rw [ins_at (l := l) (p := n + 1) hle (fun i y hi hy => by
        rcases Nat.lt_or_ge i n with h4 | h4
        · have := adj_get wLess_trans h h4 hy hx
          exact bytesLess_trans this hlt
        · have : i = n := by omega
          subst this
          rw [hx] at hy; injection hy with hy; subst hy; exact hlt) (fun y hy => by
        cases hb : Op.bytesLess y.Key w.Key with
        | false => rfl
        | true => have := bytesLess_trans (hno y hy) hb; rw [bytesLess_irrefl] at this; cases this)]
      rw [if_neg]
      intro ⟨y, hy, hyk⟩
      have := hno y hy
      rw [hyk, bytesLess_irrefl] at this; cases this
theorem putW_eq {l : List TWrite} (h : adj wLess l = true) (w : TWrite) : putW l w = putWS l w := (putW_ins h w).trans (putWS_ins h w).symm
/-! ### What putting in keeps -/
theorem adj_pair {α : Type} {p : α → α → Bool} (tr : ∀ a b c, p a b = true → p b c = true → p a c = true) : ∀ {l : List α}, adj p l = true ↔ l.Pairwise fun a b => p a b = true
  | [] => by simp [adj]
  | [x] => by simp [adj]
  | x :: y :: l => by
    rw [adj, Bool.and_eq_true, adj_pair tr, List.pairwise_cons (a := x)]
    constructor
    · intro ⟨h1, h2⟩
      refine ⟨fun z hz => ?_, h2⟩
      rcases List.mem_cons.1 hz with rfl | hz
      · exact h1
      · exact tr _ _ _ h1 (List.rel_of_pairwise_cons h2 hz)
    · intro ⟨h1, h2⟩
      exact ⟨h1 y List.mem_cons_self, h2⟩
theorem adj_filter {l : List TWrite} (q : TWrite → Bool) (h : adj wLess l = true) : adj wLess (l.filter q) = true :=
  (adj_pair wLess_trans).2 (((adj_pair wLess_trans).1 h).filter q)
theorem adj_take {l : List TWrite} (n : Nat) (h : adj wLess l = true) : adj wLess (l.take n) = true :=
  (adj_pair wLess_trans).2 (((adj_pair wLess_trans).1 h).sublist (List.take_sublist n l))
theorem ins_mem {w x : TWrite} : ∀ {l : List TWrite}, x ∈ ins l w → x = w ∨ x ∈ l
  | [], h => by simp [ins] at h; exact .inl h
  | y :: l, h => by
    unfold ins at h
    split at h
    · rcases List.mem_cons.1 h with rfl | h
      · exact .inr List.mem_cons_self
      · exact (ins_mem h).imp id (List.mem_cons_of_mem _)
    · split at h
      · rcases List.mem_cons.1 h with rfl | h
        · exact .inl rfl
        · exact .inr (List.mem_cons_of_mem _ h)
      · rcases List.mem_cons.1 h with rfl | h
        · exact .inl rfl
        · exact .inr h
theorem ins_adj {w : TWrite} : ∀ {l : List TWrite}, adj wLess l = true → adj wLess (ins l w) = true
  | [], _ => rfl
  | y :: l, h => by
    have hp := (adj_pair wLess_trans).1 h
    refine (adj_pair wLess_trans).2 ?_
    unfold ins
    split
    · rename_i hlt
      have ih := (adj_pair wLess_trans).1 (ins_adj (w := w) (adj_tail h))
      refine List.pairwise_cons.2 ⟨fun z hz => ?_, ih⟩
      rcases ins_mem hz with rfl | hz
      · exact hlt
      · exact List.rel_of_pairwise_cons hp hz
    · rename_i hnlt
      split
      · rename_i hk
        refine List.pairwise_cons.2 ⟨fun z hz => ?_, (List.pairwise_cons.1 hp).2⟩
        have := List.rel_of_pairwise_cons hp hz
        unfold wLess at this ⊢
        rw [← hk]; exact this
      · rename_i hk
        have hgt : Op.bytesLess w.Key y.Key = true := by
          have := bytesLess_tri y.Key w.Key
          cases hb : Op.bytesLess w.Key y.Key with
          | true => rfl
          | false => rw [hb] at this; simp at hnlt; rw [hnlt] at this; simp at this; exact absurd this.symm hk
        refine List.pairwise_cons.2 ⟨fun z hz => ?_, hp⟩
        rcases List.mem_cons.1 hz with rfl | hz
        · exact hgt
        · exact bytesLess_trans hgt (List.rel_of_pairwise_cons hp hz)
theorem ins_len {w : TWrite} : ∀ {l : List TWrite}, l.length ≤ (ins l w).length ∧ (ins l w).length ≤ l.length + 1
  | [] => by simp [ins]
  | y :: l => by
    unfold ins
    have ih := ins_len (w := w) (l := l)
    split
    · simp; omega
    · split <;> simp
theorem gt_less (a b : Str) : (!(Op.bytesLess a b || a == b)) = Op.bytesLess b a := by
  have h := bytesLess_tri a b
  cases h1 : Op.bytesLess a b
  · cases h2 : Op.bytesLess b a
    · rw [h1, h2] at h; simp at h; simp [h]
    · simp; intro hc; subst hc; rw [bytesLess_irrefl] at h2; cases h2
  · simp; cases h2 : Op.bytesLess b a with
    | false => rfl
    | true => have := bytesLess_trans h1 h2; rw [bytesLess_irrefl] at this; cases this
theorem scanW_step {l : List TWrite} {k : Str} {n : Nat} {x : TWrite} (hx : l[n]? = some x) (h : Op.bytesLess k x.Key = true) : scanW l k (n + 1) = scanW l k n := by
  conv => lhs; unfold scanW
  simp only [hx, h, if_true]
theorem scanW_stop {l : List TWrite} {k : Str} {n : Nat} {x : TWrite} (hx : l[n]? = some x) (h : Op.bytesLess k x.Key = false) : scanW l k (n + 1) = n + 1 := by
  unfold scanW
  simp only [hx, h, Bool.false_eq_true, if_false]
def insL (l ws : List TWrite) : List TWrite := ws.foldl ins l
theorem insL_adj : ∀ {ws l : List TWrite}, adj wLess l = true → adj wLess (insL l ws) = true
  | [], _, h => h
  | w :: ws, l, h => insL_adj (ws := ws) (ins_adj h)
theorem insL_mem {x : TWrite} : ∀ {ws l : List TWrite}, x ∈ insL l ws → x ∈ ws ∨ x ∈ l
  | [], _, h => .inr h
  | w :: ws, l, h => by
    rcases insL_mem (ws := ws) (l := ins l w) h with h | h
    · exact .inl (List.mem_cons_of_mem _ h)
    · rcases ins_mem h with rfl | h
      · exact .inl List.mem_cons_self
      · exact .inr h
theorem insL_len : ∀ {ws l : List TWrite}, (insL l ws).length ≤ l.length + ws.length
  | [], l => by simp [insL]
  | w :: ws, l => by
    have h1 := insL_len (ws := ws) (l := ins l w)
    have h2 := (ins_len (w := w) (l := l)).2
    show (insL (ins l w) ws).length ≤ _
    simp only [List.length_cons]; omega
def putL (l ws : List TWrite) : List TWrite := ws.foldl putW l
def putLS (l ws : List TWrite) : List TWrite := ws.foldl putWS l
theorem putL_ins : ∀ {ws l : List TWrite}, adj wLess l = true → putL l ws = insL l ws
  | [], _, _ => rfl
  | w :: ws, l, h => by
    show putL (putW l w) ws = insL (ins l w) ws
    rw [putW_ins h, putL_ins (ins_adj h)]
theorem putLS_ins : ∀ {ws l : List TWrite}, adj wLess l = true → putLS l ws = insL l ws
  | [], _, _ => rfl
  | w :: ws, l, h => by
    show putLS (putWS l w) ws = insL (ins l w) ws
    rw [putWS_ins h, putLS_ins (ins_adj h)]
theorem putWS_len (l : List TWrite) (w : TWrite) : (putWS l w).length ≤ l.length + 1 := by
  unfold putWS; split
  · simp
  · simp; omega
theorem putW_len (l : List TWrite) (w : TWrite) : (putW l w).length ≤ l.length + 1 := by
  unfold putW; split
  · simp
  · simp; omega
theorem putLS_len : ∀ (ws l : List TWrite), (putLS l ws).length ≤ l.length + ws.length
  | [], l => by simp [putLS]
  | w :: ws, l => by
    have h1 := putLS_len ws (putWS l w)
    have h2 := putWS_len l w
    show (putLS (putWS l w) ws).length ≤ _
    simp only [List.length_cons]; omega
theorem putL_len : ∀ (ws l : List TWrite), (putL l ws).length ≤ l.length + ws.length
  | [], l => by simp [putL]
  | w :: ws, l => by
    have h1 := putL_len ws (putW l w)
    have h2 := putW_len l w
    show (putL (putW l w) ws).length ≤ _
    simp only [List.length_cons]; omega
theorem putL_snoc (l ws : List TWrite) (w : TWrite) : putL l (ws ++ [w]) = putW (putL l ws) w := by unfold putL; rw [List.foldl_append]; rfl
theorem putLS_snoc (l ws : List TWrite) (w : TWrite) : putLS l (ws ++ [w]) = putWS (putLS l ws) w := by unfold putLS; rw [List.foldl_append]; rfl
def livesL (l : List TWrite) : List TWrite := l.filter fun w => !w.Gone
/-- The program's putRows. -/
def putRows (rows ws : List TWrite) : List TWrite × Bool := if (24 : Int) < ((livesL (putL rows ws)).length : Int) then ([], false) else (livesL (putL rows ws), true)
/-- The reference's PutRows. -/
def putRowsS (rows ws : List TWrite) : List TWrite × Bool := if (!l5Rows rows || !l3Writes ws || !l5Rows (livesL (putLS rows ws))) = true then ([], false) else (livesL (putLS rows ws), true)
theorem l5_adj {l : List TWrite} (h : l5Rows l = true) : adj wLess l = true := by
  unfold l5Rows l3Writes at h; simp only [Bool.and_eq_true] at h; exact h.2.1.2
theorem l5_all {l : List TWrite} (h : l5Rows l = true) : ∀ w ∈ l, w.Gone = false ∧ wGood w = true := by
  unfold l5Rows l3Writes at h; simp only [Bool.and_eq_true, List.all_eq_true] at h
  exact fun w hw => ⟨by simpa using h.1 w hw, h.2.1.1 w hw⟩
theorem l5_len {l : List TWrite} (h : l5Rows l = true) : l.length ≤ 24 := by
  unfold l5Rows l3Writes at h; simp only [Bool.and_eq_true, decide_eq_true_eq] at h; omega
theorem l5_mk {l : List TWrite} (h1 : adj wLess l = true) (h2 : ∀ w ∈ l, w.Gone = false ∧ wGood w = true) : l5Rows l = decide ((l.length : Int) ≤ 24) := by
  unfold l5Rows l3Writes
  have h3 : (l.all fun w => !w.Gone) = true := List.all_eq_true.2 fun w hw => by simp [(h2 w hw).1]
  have h4 : l.all wGood = true := List.all_eq_true.2 fun w hw => (h2 w hw).2
  rw [h1, h3, h4]; simp
theorem live_all {rows ws : List TWrite} (hr : l5Rows rows = true) (hw : ∀ w ∈ ws, wGood w = true) : ∀ w ∈ livesL (insL rows ws), w.Gone = false ∧ wGood w = true := fun w h => by
  obtain ⟨h1, h2⟩ := List.mem_filter.1 h
  refine ⟨by simpa using h2, ?_⟩
  rcases insL_mem h1 with h3 | h3
  · exact hw w h3
  · exact (l5_all hr w h3).2
theorem putRows_eq {rows ws : List TWrite} (hr : l5Rows rows = true) (hw : l3Writes ws = true) : putRows rows ws = putRowsS rows ws := by
  have ha := l5_adj hr
  have hg : ∀ w ∈ ws, wGood w = true := by unfold l3Writes at hw; simp only [Bool.and_eq_true, List.all_eq_true] at hw; exact hw.1.1
  unfold putRows putRowsS
  rw [putL_ins ha, putLS_ins ha, hr, hw, l5_mk (l := livesL (insL rows ws)) (adj_filter _ (insL_adj ha)) (live_all hr hg)]
  by_cases h : (24 : Int) < ((livesL (insL rows ws)).length : Int)
  · rw [if_pos h, if_pos (by simp; omega)]
  · rw [if_neg h, if_neg (by simp; omega)]
theorem sizeW_app {α : Type} (f : α → Nat) (a b : List α) : sizeL f (a ++ b) = sizeL f a + sizeL f b := by
  unfold sizeL; simp only [List.length_append, List.map_append, List.sum_append]; omega
theorem sizeW_cons {α : Type} (f : α → Nat) (x : α) (b : List α) : sizeL f (x :: b) = f x + 1 + sizeL f b := by
  unfold sizeL; simp only [List.length_cons, List.map_cons, List.sum_cons]; omega
theorem sizeW_ins {α : Type} (f : α → Nat) (l : List α) (n : Nat) (x : α) : sizeL f (l.take n ++ x :: l.drop n) = sizeL f l + f x + 1 := by
  have h := congrArg (sizeL f) (List.take_append_drop n l)
  rw [sizeW_app] at h
  rw [sizeW_app, sizeW_cons]; omega
theorem sizeW_set {α : Type} (f : α → Nat) (x : α) : ∀ (l : List α) (n : Nat), sizeL f (l.set n x) ≤ sizeL f l + f x
  | [], n => by simp
  | y :: l, 0 => by rw [List.set_cons_zero, sizeW_cons, sizeW_cons]; omega
  | y :: l, n + 1 => by rw [List.set_cons_succ, sizeW_cons, sizeW_cons]; have := sizeW_set f x l n; omega
theorem sizeW_sub {α : Type} {f : α → Nat} {l m : List α} (h : List.Sublist m l) : sizeL f m ≤ sizeL f l := by
  induction h with
  | slnil => exact Nat.le_refl _
  | cons x h ih => rw [sizeW_cons]; omega
  | cons_cons x h ih => rw [sizeW_cons, sizeW_cons]; omega
theorem putWS_size (l : List TWrite) (w : TWrite) : sizeL TWrite.size (putWS l w) ≤ sizeL TWrite.size l + w.size + 1 := by
  unfold putWS; split
  · have := sizeW_set TWrite.size w l (scanW l w.Key l.length - 1); omega
  · rw [sizeW_ins]; omega
theorem putLS_size : ∀ (ws l : List TWrite), sizeL TWrite.size (putLS l ws) ≤ sizeL TWrite.size l + sizeL TWrite.size ws
  | [], l => by simp [putLS]
  | w :: ws, l => by
    have h1 := putLS_size ws (putWS l w)
    have h2 := putWS_size l w
    show sizeL TWrite.size (putLS (putWS l w) ws) ≤ _
    rw [sizeW_cons]; omega
theorem livesL_size (l : List TWrite) : sizeL TWrite.size (livesL l) ≤ sizeL TWrite.size l := sizeW_sub (List.filter_sublist)
theorem livesL_id {l : List TWrite} (h : ∀ w ∈ l, w.Gone = false) : livesL l = l := by
  unfold livesL; rw [List.filter_eq_self]; intro w hw; simp [h w hw]
end Go.M
