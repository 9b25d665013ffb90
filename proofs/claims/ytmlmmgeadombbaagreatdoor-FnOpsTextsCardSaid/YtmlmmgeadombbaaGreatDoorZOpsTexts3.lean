/- Texts of the claim, part 3. -/
import Derived.Test.YtmlmmgeadombbaaGreatDoorRows
import Derived.Test.YtmlmmgeadombbaaGreatDoorZOpsTexts2

set_option linter.unusedVariables false
set_option linter.unusedSimpArgs false
set_option maxRecDepth 100000
set_option maxHeartbeats 1000000
namespace Go.Proofs.YtmlmmgeadombbaaGreatDoor
open Go Go.AV Go.M
attribute [local irreducible] OpW OpA OpS AWP FSpec ESpec GSpec OpE RetOk RetOkG RvDen Le Ev GuardIs SrcIs Int.tmod Int.tdiv IntKind.wrap
theorem word_get {k : Int} (h : 1 ≤ k ∧ k ≤ 7) : (opWs.map fun s => [AV.str s])[k.toNat]? = some [AV.str (wordOf k)] :=
  wordOf_mem h (fun k => (opWs.map fun s => [AV.str s])[k.toNat]? = some [AV.str (wordOf k)]) rfl rfl rfl rfl rfl rfl rfl
theorem opsText_spec (l : List TOp) (hg : goodOps l = true) : FSpec Tryz.prog 38 [AV.wt tabW (AV.list 4 (l.map TOp.cs))] (AV.str (opsB l)) := by
  have hl8 := goodOps_len hg
  have hlb := opsB_len hg
  refine spec_of_awp Tryz.func38 rfl Tryz.ntmps38 rfl ?_
  refine AWP.le (le_tab (t := 0) rfl) ?_
  refine awp_seq ?_
  refine awp_region ?_
  refine sq_plain rfl rfl rfl (w_assign rfl (ev_cs' (l := []) rfl)) ?_
  refine sq_nil ?_
  refine awp_seq ?_
  refine awp_region ?_
  refine sq_emptyarr rfl rfl rfl rfl Tryz.underlying34 Tryz.sizeOf9 ?_
  intro v7
  refine sq_plain rfl rfl rfl (w_assign rfl (ev_tmp rfl)) ?_
  refine sq_nil ?_
  refine awp_seq ?_
  refine awp_seq ?_
  refine awp_region ?_
  refine sq_plain rfl rfl rfl (w_move rfl (ev_tmp rfl)) ?_
  refine sq_plain rfl rfl rfl (w_llen rfl Tryz.underlying24 (ev_tmp rfl)) ?_
  refine sq_plain rfl rfl rfl (w_move rfl ev_ci) ?_
  refine sq_nil ?_
  refine awp_block ?_
  refine awp_loop_i2 [(2, _), (8, _), (9, _)] _ (fun (i : Nat) (v : Value) => i ≤ l.length) (fun (i : Nat) (v : Value) => [.arr v 9 1 (((l.take i).map opB).map fun s => [AV.str s])]) (fun (i : Nat) (v : Value) => [(3, AV.is v), (10, AV.int i)]) (fun (i : Nat) (v : Value) => l.length - i) (0) (v7) ?_ (le_eq (by rfl) ⟨rfl, rfl, rfl, rfl, rfl, trivial⟩) ?_
  · exact Nat.zero_le _
  intro i v hinv
  refine awp_seq ?_
  refine awp_region ?_
  refine sq_plain rfl rfl rfl (w_lss rfl (ev_tmp rfl) (ev_tmp rfl)) ?_
  refine sq_nil ?_
  refine awp_seq ?_
  refine awp_cond (ev_tmp rfl) ?_ ?_
  · intro h11
    have k11 := of_decide_eq_true h11; try simp only [List.length_map] at k11
    have hlt : i < l.length := by omega
    obtain ⟨x, hx⟩ := get_some hlt
    have hxg := goodOps_is hg x (List.mem_of_getElem? hx)
    have hxo := goodO hxg
    have hkn := hxo.kind
    have hw4 := word_len hxo.kind
    have hkv := isOp_lens hxg
    have hi5 := itoa_len5 hxo.by'
    have hby := hxo.by'
    refine awp_skip ?_
    refine awp_seq ?_
    refine awp_block ?_
    refine awp_seq ?_
    refine awp_region ?_
    refine sq_plain rfl rfl rfl (w_idxm rfl Tryz.underlying24 Tryz.sizeOf55 (ev_tmp rfl) (ev_tmp rfl) hx (by first | omega | ((try simp only [List.length_map, List.length_take, List.length_cons, List.length_nil, chunks_len, szR] at *); omega) | (have hc2 := hc; simp only [Bool.and_eq_true, Bool.or_eq_true, Bool.or_eq_false_iff, Bool.and_eq_false_iff, Bool.not_eq_true', Bool.not_eq_false', decide_eq_true_eq, decide_eq_false_iff_not, beq_iff_eq, bne_iff_ne, List.length_map, List.length_take] at hc2; omega))) ?_
    refine sq_plain rfl rfl rfl (w_loadE rfl (ev_tmp rfl) Tryz.isAgg55 Tryz.sizeOf55) ?_
    refine sq_alloc rfl rfl rfl rfl Tryz.zeroValue55 rfl ?_
    intro b5
    refine sq_storeB0 0 rfl rfl rfl (ev_tmp rfl) (ev_tmp rfl) (as_agg _) rfl Tryz.sizeOf55 rfl ?_
    refine sq_nil ?_
    refine awp_seq ?_
    refine awp_region_any (by kernel_rfl) (by kernel_rfl) rfl ?_
    refine ch_plain rfl rfl (w_call rfl Tryz.call43 rfl (opWords_spec) evl_nil) ?_
    refine ch_plain rfl rfl (w_fldBn 0 rfl Tryz.underlying55 rfl Tryz.sizeOf3 (ev_tmp rfl) rfl) ?_
    refine ch_plain rfl rfl (w_loadB1 0 rfl (ev_tmp rfl) rfl Tryz.isAgg3 rfl) ?_
    refine ch_plain rfl rfl (w_idx rfl Tryz.underlying34 Tryz.sizeOf9 (ev_tmp rfl) (ev_tmp rfl) (by omega) (word_get hxo.kind)) ?_
    refine ch_plain rfl rfl (w_loadE1 rfl (ev_tmp rfl) Tryz.isAgg9 rfl) ?_
    refine ch_plain rfl rfl (w_cat rfl (ev_tmp rfl) (ev_cs' (l := [32]) rfl) (by first | omega | (simp only [List.length_append, List.length_take, List.length_drop, List.length_cons, List.length_nil]; omega))) ?_
    refine ch_plain rfl rfl (w_fldBn 1 rfl Tryz.underlying55 rfl Tryz.sizeOf9 (ev_tmp rfl) rfl) ?_
    refine ch_plain rfl rfl (w_loadB1 0 rfl (ev_tmp rfl) rfl Tryz.isAgg9 rfl) ?_
    refine ch_plain rfl rfl (w_cat rfl (ev_tmp rfl) (ev_tmp rfl) (by first | omega | (simp only [List.length_append, List.length_take, List.length_drop, List.length_cons, List.length_nil]; omega))) ?_
    refine ch_plain rfl rfl (w_assign rfl (ev_tmp rfl)) ?_
    refine ch_nil ?_
    refine awp_seq ?_
    refine awp_seq ?_
    refine awp_region ?_
    refine sq_plain rfl rfl rfl (w_fldBn 0 rfl Tryz.underlying55 rfl Tryz.sizeOf3 (ev_tmp rfl) rfl) ?_
    refine sq_plain rfl rfl rfl (w_loadB1 0 rfl (ev_tmp rfl) rfl Tryz.isAgg3 rfl) ?_
    refine sq_plain rfl rfl rfl (w_call rfl Tryz.call44 rfl (hasVal_spec _) (evl_cons (ev_tmp rfl) evl_nil)) ?_
    refine sq_nil ?_
    refine awp_cond (ev_tmp rfl) ?_ ?_
    · intro h25
      refine awp_region ?_
      refine sq_plain rfl rfl rfl (w_move rfl (ev_tmp rfl)) ?_
      refine sq_plain rfl rfl rfl (w_fldBn 2 rfl Tryz.underlying55 rfl Tryz.sizeOf9 (ev_tmp rfl) rfl) ?_
      refine sq_plain rfl rfl rfl (w_loadB1 0 rfl (ev_tmp rfl) rfl Tryz.isAgg9 rfl) ?_
      refine sq_plain rfl rfl rfl (w_cat rfl (ev_cs' (l := [32]) rfl) (ev_tmp rfl) (by first | omega | (simp only [List.length_append, List.length_take, List.length_drop, List.length_cons, List.length_nil]; omega))) ?_
      refine sq_plain rfl rfl rfl (w_cat rfl (ev_tmp rfl) (ev_tmp rfl) (by first | omega | (simp only [List.length_append, List.length_take, List.length_drop, List.length_cons, List.length_nil]; omega))) ?_
      refine sq_plain rfl rfl rfl (w_assign rfl (ev_tmp rfl)) ?_
      refine sq_nil ?_
      refine awp_seq ?_
      refine awp_seq ?_
      refine awp_region ?_
      refine sq_plain rfl rfl rfl (w_fldBn 0 rfl Tryz.underlying55 rfl Tryz.sizeOf3 (ev_tmp rfl) rfl) ?_
      refine sq_plain rfl rfl rfl (w_loadB1 0 rfl (ev_tmp rfl) rfl Tryz.isAgg3 rfl) ?_
      refine sq_plain rfl rfl rfl (w_call rfl Tryz.call45 rfl (hasBy_spec _) (evl_cons (ev_tmp rfl) evl_nil)) ?_
      refine sq_nil ?_
      refine awp_cond (ev_tmp rfl) ?_ ?_
      · intro h33
        refine awp_region ?_
        refine sq_plain rfl rfl rfl (w_move rfl (ev_tmp rfl)) ?_
        refine sq_plain rfl rfl rfl (w_fldBn 3 rfl Tryz.underlying55 rfl Tryz.sizeOf3 (ev_tmp rfl) rfl) ?_
        refine sq_plain rfl rfl rfl (w_loadB1 0 rfl (ev_tmp rfl) rfl Tryz.isAgg3 rfl) ?_
        refine sq_plain rfl rfl rfl (w_callB rfl Tryz.call96 rfl (itoa_spec x.By (by omega)) (flat_str _) (evlb_cons (evb_wt 2 rfl (by first | exact fun _ h => h | exact fun _ h => h.1) (evb (ev_tmp rfl))) evlb_nil)) ?_
        refine sq_plain rfl rfl rfl (w_cat rfl (ev_cs' (l := [32]) rfl) (ev_tmp rfl) (by first | omega | (simp only [List.length_append, List.length_take, List.length_drop, List.length_cons, List.length_nil]; omega))) ?_
        refine sq_plain rfl rfl rfl (w_cat rfl (ev_tmp rfl) (ev_tmp rfl) (by first | omega | (simp only [List.length_append, List.length_take, List.length_drop, List.length_cons, List.length_nil]; omega))) ?_
        refine sq_plain rfl rfl rfl (w_assign rfl (ev_tmp rfl)) ?_
        refine sq_nil ?_
        refine awp_region ?_
        refine sq_plain rfl rfl rfl (w_move rfl (ev_tmp rfl)) ?_
        refine sq_plain rfl rfl rfl (w_move rfl (ev_tmp rfl)) ?_
        refine sq_plain rfl rfl rfl (w_bslice rfl Tryz.underlying34 Tryz.sizeOf9 Tryz.zeroValue9 rfl rfl rfl rfl (bp_cons (ev_tmp rfl) (as_str _) bp_nil) rfl rfl) ?_
        refine sq_append (by' := 16) 1 rfl rfl rfl rfl Tryz.underlying34 Tryz.type9 rfl rfl rfl rfl rfl rfl (ev_tmp rfl) (ev_tmp rfl) rfl (by simp only [List.length_map, List.length_take, chunks_len]; omega) ?_
        intro v43_1
        refine sq_plain rfl rfl rfl (w_assign rfl (ev_tmp rfl)) ?_
        refine sq_nil ?_
        refine awp_region ?_
        refine sq_plain rfl rfl rfl (w_addi rfl (ev_tmp rfl) ev_ci (by first | omega | ((try simp only [List.length_map, List.length_take, List.length_cons, List.length_nil, chunks_len, szR] at *); omega) | (have hc2 := hc; simp only [Bool.and_eq_true, Bool.or_eq_true, Bool.or_eq_false_iff, Bool.and_eq_false_iff, Bool.not_eq_true', Bool.not_eq_false', decide_eq_true_eq, decide_eq_false_iff_not, beq_iff_eq, bne_iff_ne, List.length_map, List.length_take] at hc2; omega))) ?_
        refine sq_plain rfl rfl rfl (w_move rfl (ev_tmp rfl)) ?_
        refine sq_nil ?_
        refine round_end2 i v (i + 1) (v43_1) ?_ ?_ (Le.trans (le_pick [0, 0] rfl) (le_dropeq 1 (by exact congrArg (fun z => Own.arr _ 9 1 z :: _) (by rw [List.take_add_one, hx]; show _ ++ [[AV.str _]] = _; simp [opB, opVal, opHd, h25, h33])) ⟨rfl, rfl, rfl, rfl, rfl, trivial⟩))
        · omega
        · omega
      · intro h33
        refine awp_skip ?_
        refine awp_region ?_
        refine sq_plain rfl rfl rfl (w_move rfl (ev_tmp rfl)) ?_
        refine sq_plain rfl rfl rfl (w_move rfl (ev_tmp rfl)) ?_
        refine sq_plain rfl rfl rfl (w_bslice rfl Tryz.underlying34 Tryz.sizeOf9 Tryz.zeroValue9 rfl rfl rfl rfl (bp_cons (ev_tmp rfl) (as_str _) bp_nil) rfl rfl) ?_
        refine sq_append (by' := 16) 1 rfl rfl rfl rfl Tryz.underlying34 Tryz.type9 rfl rfl rfl rfl rfl rfl (ev_tmp rfl) (ev_tmp rfl) rfl (by simp only [List.length_map, List.length_take, chunks_len]; omega) ?_
        intro v43_2
        refine sq_plain rfl rfl rfl (w_assign rfl (ev_tmp rfl)) ?_
        refine sq_nil ?_
        refine awp_region ?_
        refine sq_plain rfl rfl rfl (w_addi rfl (ev_tmp rfl) ev_ci (by first | omega | ((try simp only [List.length_map, List.length_take, List.length_cons, List.length_nil, chunks_len, szR] at *); omega) | (have hc2 := hc; simp only [Bool.and_eq_true, Bool.or_eq_true, Bool.or_eq_false_iff, Bool.and_eq_false_iff, Bool.not_eq_true', Bool.not_eq_false', decide_eq_true_eq, decide_eq_false_iff_not, beq_iff_eq, bne_iff_ne, List.length_map, List.length_take] at hc2; omega))) ?_
        refine sq_plain rfl rfl rfl (w_move rfl (ev_tmp rfl)) ?_
        refine sq_nil ?_
        refine round_end2 i v (i + 1) (v43_2) ?_ ?_ (Le.trans (le_pick [0, 0] rfl) (le_dropeq 1 (by exact congrArg (fun z => Own.arr _ 9 1 z :: _) (by rw [List.take_add_one, hx]; show _ ++ [[AV.str _]] = _; simp [opB, opVal, opHd, h25, h33])) ⟨rfl, rfl, rfl, rfl, rfl, trivial⟩))
        · omega
        · omega
    · intro h25
      refine awp_skip ?_
      refine awp_seq ?_
      refine awp_seq ?_
      refine awp_region ?_
      refine sq_plain rfl rfl rfl (w_fldBn 0 rfl Tryz.underlying55 rfl Tryz.sizeOf3 (ev_tmp rfl) rfl) ?_
      refine sq_plain rfl rfl rfl (w_loadB1 0 rfl (ev_tmp rfl) rfl Tryz.isAgg3 rfl) ?_
      refine sq_plain rfl rfl rfl (w_call rfl Tryz.call45 rfl (hasBy_spec _) (evl_cons (ev_tmp rfl) evl_nil)) ?_
      refine sq_nil ?_
      refine awp_cond (ev_tmp rfl) ?_ ?_
      · intro h33
        refine awp_region ?_
        refine sq_plain rfl rfl rfl (w_move rfl (ev_tmp rfl)) ?_
        refine sq_plain rfl rfl rfl (w_fldBn 3 rfl Tryz.underlying55 rfl Tryz.sizeOf3 (ev_tmp rfl) rfl) ?_
        refine sq_plain rfl rfl rfl (w_loadB1 0 rfl (ev_tmp rfl) rfl Tryz.isAgg3 rfl) ?_
        refine sq_plain rfl rfl rfl (w_callB rfl Tryz.call96 rfl (itoa_spec x.By (by omega)) (flat_str _) (evlb_cons (evb_wt 2 rfl (by first | exact fun _ h => h | exact fun _ h => h.1) (evb (ev_tmp rfl))) evlb_nil)) ?_
        refine sq_plain rfl rfl rfl (w_cat rfl (ev_cs' (l := [32]) rfl) (ev_tmp rfl) (by first | omega | (simp only [List.length_append, List.length_take, List.length_drop, List.length_cons, List.length_nil]; omega))) ?_
        refine sq_plain rfl rfl rfl (w_cat rfl (ev_tmp rfl) (ev_tmp rfl) (by first | omega | (simp only [List.length_append, List.length_take, List.length_drop, List.length_cons, List.length_nil]; omega))) ?_
        refine sq_plain rfl rfl rfl (w_assign rfl (ev_tmp rfl)) ?_
        refine sq_nil ?_
        refine awp_region ?_
        refine sq_plain rfl rfl rfl (w_move rfl (ev_tmp rfl)) ?_
        refine sq_plain rfl rfl rfl (w_move rfl (ev_tmp rfl)) ?_
        refine sq_plain rfl rfl rfl (w_bslice rfl Tryz.underlying34 Tryz.sizeOf9 Tryz.zeroValue9 rfl rfl rfl rfl (bp_cons (ev_tmp rfl) (as_str _) bp_nil) rfl rfl) ?_
        refine sq_append (by' := 16) 1 rfl rfl rfl rfl Tryz.underlying34 Tryz.type9 rfl rfl rfl rfl rfl rfl (ev_tmp rfl) (ev_tmp rfl) rfl (by simp only [List.length_map, List.length_take, chunks_len]; omega) ?_
        intro v43_3
        refine sq_plain rfl rfl rfl (w_assign rfl (ev_tmp rfl)) ?_
        refine sq_nil ?_
        refine awp_region ?_
        refine sq_plain rfl rfl rfl (w_addi rfl (ev_tmp rfl) ev_ci (by first | omega | ((try simp only [List.length_map, List.length_take, List.length_cons, List.length_nil, chunks_len, szR] at *); omega) | (have hc2 := hc; simp only [Bool.and_eq_true, Bool.or_eq_true, Bool.or_eq_false_iff, Bool.and_eq_false_iff, Bool.not_eq_true', Bool.not_eq_false', decide_eq_true_eq, decide_eq_false_iff_not, beq_iff_eq, bne_iff_ne, List.length_map, List.length_take] at hc2; omega))) ?_
        refine sq_plain rfl rfl rfl (w_move rfl (ev_tmp rfl)) ?_
        refine sq_nil ?_
        refine round_end2 i v (i + 1) (v43_3) ?_ ?_ (Le.trans (le_pick [0, 0] rfl) (le_dropeq 1 (by exact congrArg (fun z => Own.arr _ 9 1 z :: _) (by rw [List.take_add_one, hx]; show _ ++ [[AV.str _]] = _; simp [opB, opVal, opHd, h25, h33])) ⟨rfl, rfl, rfl, rfl, rfl, trivial⟩))
        · omega
        · omega
      · intro h33
        refine awp_skip ?_
        refine awp_region ?_
        refine sq_plain rfl rfl rfl (w_move rfl (ev_tmp rfl)) ?_
        refine sq_plain rfl rfl rfl (w_move rfl (ev_tmp rfl)) ?_
        refine sq_plain rfl rfl rfl (w_bslice rfl Tryz.underlying34 Tryz.sizeOf9 Tryz.zeroValue9 rfl rfl rfl rfl (bp_cons (ev_tmp rfl) (as_str _) bp_nil) rfl rfl) ?_
        refine sq_append (by' := 16) 1 rfl rfl rfl rfl Tryz.underlying34 Tryz.type9 rfl rfl rfl rfl rfl rfl (ev_tmp rfl) (ev_tmp rfl) rfl (by simp only [List.length_map, List.length_take, chunks_len]; omega) ?_
        intro v43_4
        refine sq_plain rfl rfl rfl (w_assign rfl (ev_tmp rfl)) ?_
        refine sq_nil ?_
        refine awp_region ?_
        refine sq_plain rfl rfl rfl (w_addi rfl (ev_tmp rfl) ev_ci (by first | omega | ((try simp only [List.length_map, List.length_take, List.length_cons, List.length_nil, chunks_len, szR] at *); omega) | (have hc2 := hc; simp only [Bool.and_eq_true, Bool.or_eq_true, Bool.or_eq_false_iff, Bool.and_eq_false_iff, Bool.not_eq_true', Bool.not_eq_false', decide_eq_true_eq, decide_eq_false_iff_not, beq_iff_eq, bne_iff_ne, List.length_map, List.length_take] at hc2; omega))) ?_
        refine sq_plain rfl rfl rfl (w_move rfl (ev_tmp rfl)) ?_
        refine sq_nil ?_
        refine round_end2 i v (i + 1) (v43_4) ?_ ?_ (Le.trans (le_pick [0, 0] rfl) (le_dropeq 1 (by exact congrArg (fun z => Own.arr _ 9 1 z :: _) (by rw [List.take_add_one, hx]; show _ ++ [[AV.str _]] = _; simp [opB, opVal, opHd, h25, h33])) ⟨rfl, rfl, rfl, rfl, rfl, trivial⟩))
        · omega
        · omega
  · intro h11
    have k11 := of_decide_eq_false h11; try simp only [List.length_map] at k11
    have hge : i = l.length := by omega
    rw [hge, List.take_length]
    refine awp_exit ?_
    refine awp_seq ?_
    refine awp_region ?_
    refine sq_plain rfl rfl rfl (w_move rfl (ev_tmp rfl)) ?_
    refine sq_callG [0] rfl rfl rfl rfl Tryz.call97 rfl (join_own _ (l.map opB) (by rw [List.length_map]; omega) (by unfold opsB at hlb; omega)) (evl_cons (ev_tmp rfl) (evl_cons (ev_cs' (l := [59, 32]) rfl) evl_nil)) rfl ?_
    intro x46 ok46
    refine sq_plain rfl rfl rfl (w_assign rfl (ev_tmp rfl)) ?_
    refine sq_nil ?_
    refine awp_ret ?_
    exact retR rfl (rv_tmp' rfl (by rfl))
theorem opsTextR_spec (l : List TOp) (hs : sizeL TOp.size l ≤ 1048576) : FSpec Tryz.prog 7 [AV.wt tabW (AV.list 4 (l.map TOp.cs))] (AV.tup [AV.str (opsTextR l).1, AV.bool (opsTextR l).2]) := by
  refine spec_of_awp Tryz.func7 rfl Tryz.ntmps7 rfl ?_
  refine AWP.le (le_tab (t := 0) rfl) ?_
  refine awp_seq ?_
  refine awp_region ?_
  refine sq_plain rfl rfl rfl (w_assign rfl (ev_cs' (l := []) rfl)) ?_
  refine sq_plain rfl rfl rfl (w_assign rfl ev_cb) ?_
  refine sq_nil ?_
  refine awp_seq ?_
  refine awp_seq ?_
  refine awp_region ?_
  refine sq_plain rfl rfl rfl (w_move rfl (ev_tmp rfl)) ?_
  refine sq_plain rfl rfl rfl (w_call rfl Tryz.call37 rfl (goodOps_spec _ (by first | assumption | omega)) (evl_cons (ev_tmp rfl) evl_nil)) ?_
  refine sq_plain rfl rfl rfl (w_not rfl (ev_tmp rfl)) ?_
  refine sq_nil ?_
  refine awp_cond (ev_tmp rfl) ?_ ?_
  · intro h6
    have he : opsTextR l = ([], false) := if_neg (by simpa using h6)
    rw [he]
    refine awp_seq ?_
    refine awp_region ?_
    refine sq_plain rfl rfl rfl (w_assign rfl (ev_cs' (l := []) rfl)) ?_
    refine sq_plain rfl rfl rfl (w_assign rfl ev_cb) ?_
    refine sq_nil ?_
    refine awp_ret ?_
    exact retN rfl (by decide) (rv_cons (rv_tmp' rfl (by rfl)) (rv_cons (rv_tmp' rfl (by rfl)) rv_nil))
  · intro h6
    have hg : goodOps l = true := by simpa using h6
    have he : opsTextR l = (opsB l, true) := if_pos hg
    rw [he]
    refine awp_skip ?_
    refine awp_seq ?_
    refine awp_region ?_
    refine sq_plain rfl rfl rfl (w_move rfl (ev_tmp rfl)) ?_
    refine sq_plain rfl rfl rfl (w_callB rfl Tryz.call38 rfl (opsText_spec _ (by first | assumption | omega)) (flat_str _) (evlb_cons (evb_wt 0 rfl (by first | exact fun _ h => h | exact fun _ h => h.1) (evb (ev_tmp rfl))) evlb_nil)) ?_
    refine sq_plain rfl rfl rfl (w_assign rfl (ev_tmp rfl)) ?_
    refine sq_plain rfl rfl rfl (w_assign rfl ev_cb) ?_
    refine sq_nil ?_
    refine awp_ret ?_
    exact retN rfl (by decide) (rv_cons (rv_tmp' rfl (by rfl)) (rv_cons (rv_tmp' rfl (by rfl)) rv_nil))
theorem l5Text_spec (n : Int) (h : -9999 ≤ n ∧ n ≤ 9999) : FSpec Tryz.prog 100 [AV.int n] (AV.str (itoaD n)) := by
  refine spec_of_awp Tryz.func100 rfl Tryz.ntmps100 rfl ?_
  refine awp_seq ?_
  refine awp_region ?_
  refine sq_plain rfl rfl rfl (w_assign rfl (ev_cs' (l := []) rfl)) ?_
  refine sq_nil ?_
  refine awp_seq ?_
  refine awp_seq ?_
  refine awp_region ?_
  refine sq_plain rfl rfl rfl (w_move rfl (ev_tmp rfl)) ?_
  refine sq_plain rfl rfl rfl (w_lss rfl (ev_tmp rfl) ev_ci) ?_
  refine sq_nil ?_
  refine awp_cond (ev_tmp rfl) ?_ ?_
  · intro h4
    have k4 := of_decide_eq_true h4; try simp only [List.length_map] at k4
    obtain ⟨m, hm⟩ : ∃ m : Nat, n = -(m : Int) := ⟨n.natAbs, by omega⟩
    subst hm
    have hdl := decD_len (k := 4) (n := m) (by omega) (by decide)
    have hneg : IntKind.i64.wrap (0 - -(m : Int)) = (m : Int) := by (rw [show 0 - -(m : Int) = m by omega]; exact in64 (by omega))
    rw [itoa_minus (by omega)]
    refine awp_seq ?_
    refine awp_region ?_
    refine sq_plain rfl rfl rfl (w_move rfl (ev_tmp rfl)) ?_
    refine sq_plain rfl rfl rfl (w_neg rfl (ev_tmp rfl)) ?_
    rw [hneg]
    refine sq_plain rfl rfl rfl (w_call rfl Tryz.call117 rfl (l1Num_spec m (by omega)) (evl_cons (ev_tmp rfl) evl_nil)) ?_
    refine sq_plain rfl rfl rfl (w_cat rfl (ev_cs' (l := [45]) rfl) (ev_tmp rfl) (by first | omega | (simp only [List.length_append, List.length_take, List.length_drop, List.length_cons, List.length_nil]; omega))) ?_
    refine sq_plain rfl rfl rfl (w_assign rfl (ev_tmp rfl)) ?_
    refine sq_nil ?_
    refine awp_ret ?_
    exact retR rfl (rv_tmp' rfl (by rfl))
  · intro h4
    have k4 := of_decide_eq_false h4; try simp only [List.length_map] at k4
    obtain ⟨m, hm⟩ : ∃ m : Nat, n = (m : Int) := ⟨n.toNat, by omega⟩
    subst hm
    rw [itoa_nat]
    refine awp_skip ?_
    refine awp_seq ?_
    refine awp_region ?_
    refine sq_plain rfl rfl rfl (w_move rfl (ev_tmp rfl)) ?_
    refine sq_plain rfl rfl rfl (w_call rfl Tryz.call117 rfl (l1Num_spec m (by omega)) (evl_cons (ev_tmp rfl) evl_nil)) ?_
    refine sq_plain rfl rfl rfl (w_assign rfl (ev_tmp rfl)) ?_
    refine sq_nil ?_
    refine awp_ret ?_
    exact retR rfl (rv_tmp' rfl (by rfl))
theorem l5Op_spec (o : TOp) (hs : o.size ≤ 1048576) : FSpec Tryz.prog 98 [AV.agg o.cs] (AV.bool (l5Op o)) := by
  have hs' := hs; unfold TOp.size at hs'
  refine spec_of_awp Tryz.func98 rfl Tryz.ntmps98 rfl ?_
  refine awp_seq ?_
  refine awp_region ?_
  refine sq_box rfl rfl rfl rfl (ev_tmp rfl) ?_
  intro b1
  refine sq_plain rfl rfl rfl (w_assign rfl ev_cb) ?_
  refine sq_nil ?_
  refine awp_seq ?_
  refine awp_seq ?_
  refine awp_region ?_
  refine sq_plain rfl rfl rfl (w_fldBn 1 rfl Tryz.underlying55 rfl Tryz.sizeOf9 (ev_tmp rfl) rfl) ?_
  refine sq_plain rfl rfl rfl (w_loadB1 0 rfl (ev_tmp rfl) rfl Tryz.isAgg9 rfl) ?_
  refine sq_plain rfl rfl rfl (w_call rfl Tryz.call143 rfl (l3Key_spec _ (by omega)) (evl_cons (ev_tmp rfl) evl_nil)) ?_
  refine sq_plain rfl rfl rfl (w_not rfl (ev_tmp rfl)) ?_
  refine sq_nil ?_
  refine awp_cond (ev_tmp rfl) ?_ ?_
  · intro h6
    refine awp_seq ?_
    refine awp_region ?_
    refine sq_plain rfl rfl rfl (w_assign rfl ev_cb) ?_
    refine sq_nil ?_
    refine awp_ret ?_
    exact retR rfl (rv_tmp' rfl (by exact congrArg AV.bool (by unfold l5Op hasValK hasByK; simp_all)))
  · intro h6
    refine awp_skip ?_
    refine awp_seq ?_
    refine awp_seq ?_
    refine awp_region ?_
    refine sq_plain rfl rfl rfl (w_fldBn 0 rfl Tryz.underlying55 rfl Tryz.sizeOf3 (ev_tmp rfl) rfl) ?_
    refine sq_plain rfl rfl rfl (w_loadB1 0 rfl (ev_tmp rfl) rfl Tryz.isAgg3 rfl) ?_
    refine sq_nil ?_
    refine awp_block ?_
    refine awp_seq ?_
    refine awp_seq ?_
    refine awp_region ?_
    refine sq_plain rfl rfl rfl (w_eql rfl (ev_tmp rfl) ev_ci) ?_
    refine sq_plain rfl rfl rfl (w_assign rfl (ev_tmp rfl)) ?_
    refine sq_nil ?_
    refine awp_cond (ev_tmp rfl) ?_ ?_
    · intro h9
      have k9 := eq_of_beqt h9; try simp only [List.length_map] at k9
      refine awp_skip ?_
      refine awp_cond (ev_tmp rfl) ?_ ?_
      · intro h9
        have k9 := eq_of_beqt h9; try simp only [List.length_map] at k9
        refine awp_seq ?_
        refine awp_region ?_
        refine sq_plain rfl rfl rfl (w_fldBn 2 rfl Tryz.underlying55 rfl Tryz.sizeOf9 (ev_tmp rfl) rfl) ?_
        refine sq_plain rfl rfl rfl (w_loadB1 0 rfl (ev_tmp rfl) rfl Tryz.isAgg9 rfl) ?_
        refine sq_plain rfl rfl rfl (w_call rfl Tryz.call144 rfl (l3Val_spec _ (by omega)) (evl_cons (ev_tmp rfl) evl_nil)) ?_
        refine sq_plain rfl rfl rfl (w_move rfl (ev_tmp rfl)) ?_
        refine sq_grd rfl rfl (guard_t rfl rfl rfl) (fun hc => w_fldBn 3 rfl Tryz.underlying55 rfl Tryz.sizeOf3 (ev_tmp rfl) rfl) ?_
        refine sq_grd rfl rfl (guard_t rfl rfl rfl) (fun hc => w_loadB1 0 rfl (ev_whn rfl hc) rfl Tryz.isAgg3 rfl) ?_
        refine sq_grd rfl rfl (guard_t rfl rfl rfl) (fun hc => w_eql rfl (ev_whn rfl hc) ev_ci) ?_
        refine sq_plain rfl rfl rfl (w_and rfl (ev_tmp rfl) (evif_w rfl)) ?_
        refine sq_plain rfl rfl rfl (w_assign rfl (ev_tmp rfl)) ?_
        refine sq_nil ?_
        refine awp_ret ?_
        exact retR rfl (rv_tmp' rfl (by exact congrArg AV.bool (by unfold l5Op hasValK hasByK; simp_all)))
      · intro h9
        have k9 := ne_of_beqf h9; try simp only [List.length_map] at k9
        refine awp_seq ?_
        refine awp_seq ?_
        refine awp_region ?_
        refine sq_plain rfl rfl rfl (w_eql rfl (ev_tmp rfl) ev_ci) ?_
        refine sq_plain rfl rfl rfl (w_assign rfl (ev_tmp rfl)) ?_
        refine sq_nil ?_
        refine awp_cond (ev_tmp rfl) ?_ ?_
        · intro h20
          have k20 := eq_of_beqt h20; try simp only [List.length_map] at k20
          refine awp_skip ?_
          refine awp_cond (ev_tmp rfl) ?_ ?_
          · intro h20
            have k20 := eq_of_beqt h20; try simp only [List.length_map] at k20
            refine awp_seq ?_
            refine awp_region ?_
            refine sq_plain rfl rfl rfl (w_fldBn 2 rfl Tryz.underlying55 rfl Tryz.sizeOf9 (ev_tmp rfl) rfl) ?_
            refine sq_plain rfl rfl rfl (w_loadB1 0 rfl (ev_tmp rfl) rfl Tryz.isAgg9 rfl) ?_
            refine sq_plain rfl rfl rfl (w_seql rfl (ev_tmp rfl) (ev_cs' (l := []) rfl)) ?_
            refine sq_plain rfl rfl rfl (w_move rfl (ev_tmp rfl)) ?_
            refine sq_grd rfl rfl (guard_t rfl rfl rfl) (fun hc => w_fldBn 3 rfl Tryz.underlying55 rfl Tryz.sizeOf3 (ev_tmp rfl) rfl) ?_
            refine sq_grd rfl rfl (guard_t rfl rfl rfl) (fun hc => w_loadB1 0 rfl (ev_whn rfl hc) rfl Tryz.isAgg3 rfl) ?_
            refine sq_grd rfl rfl (guard_t rfl rfl rfl) (fun hc => w_call rfl Tryz.call109 rfl (l1In_spec _ _ _) (evl_cons (ev_whn rfl hc) (evl_cons ev_ci (evl_cons ev_ci evl_nil)))) ?_
            refine sq_plain rfl rfl rfl (w_and rfl (ev_tmp rfl) (evif_w rfl)) ?_
            refine sq_plain rfl rfl rfl (w_assign rfl (ev_tmp rfl)) ?_
            refine sq_nil ?_
            refine awp_ret ?_
            exact retR rfl (rv_tmp' rfl (by exact congrArg AV.bool (by unfold l5Op hasValK hasByK; simp_all)))
          · intro h20
            have k20 := ne_of_beqf h20; try simp only [List.length_map] at k20
            refine awp_skip ?_
            refine awp_seq ?_
            refine awp_region ?_
            refine sq_plain rfl rfl rfl (w_fldBn 0 rfl Tryz.underlying55 rfl Tryz.sizeOf3 (ev_tmp rfl) rfl) ?_
            refine sq_plain rfl rfl rfl (w_loadB1 0 rfl (ev_tmp rfl) rfl Tryz.isAgg3 rfl) ?_
            refine sq_plain rfl rfl rfl (w_eql rfl (ev_tmp rfl) ev_ci) ?_
            refine sq_plain rfl rfl rfl (w_move rfl (ev_tmp rfl)) ?_
            refine sq_grd rfl rfl (guard_f rfl rfl rfl) (fun hc => w_fldBn 0 rfl Tryz.underlying55 rfl Tryz.sizeOf3 (ev_tmp rfl) rfl) ?_
            refine sq_grd rfl rfl (guard_f rfl rfl rfl) (fun hc => w_loadB1 0 rfl (ev_whn rfl hc) rfl Tryz.isAgg3 rfl) ?_
            refine sq_grd rfl rfl (guard_f rfl rfl rfl) (fun hc => w_eql rfl (ev_whn rfl hc) ev_ci) ?_
            refine sq_plain rfl rfl rfl (w_or rfl (ev_tmp rfl) (evif_w rfl)) ?_
            refine sq_plain rfl rfl rfl (w_move rfl (ev_tmp rfl)) ?_
            refine sq_grd rfl rfl (guard_f rfl rfl rfl) (fun hc => w_fldBn 0 rfl Tryz.underlying55 rfl Tryz.sizeOf3 (ev_tmp rfl) rfl) ?_
            refine sq_grd rfl rfl (guard_f rfl rfl rfl) (fun hc => w_loadB1 0 rfl (ev_whn rfl hc) rfl Tryz.isAgg3 rfl) ?_
            refine sq_grd rfl rfl (guard_f rfl rfl rfl) (fun hc => w_eql rfl (ev_whn rfl hc) ev_ci) ?_
            refine sq_plain rfl rfl rfl (w_or rfl (ev_tmp rfl) (evif_w rfl)) ?_
            refine sq_plain rfl rfl rfl (w_move rfl (ev_tmp rfl)) ?_
            refine sq_grd rfl rfl (guard_t rfl rfl rfl) (fun hc => w_fldBn 2 rfl Tryz.underlying55 rfl Tryz.sizeOf9 (ev_tmp rfl) rfl) ?_
            refine sq_grd rfl rfl (guard_t rfl rfl rfl) (fun hc => w_loadB1 0 rfl (ev_whn rfl hc) rfl Tryz.isAgg9 rfl) ?_
            refine sq_grd rfl rfl (guard_t rfl rfl rfl) (fun hc => w_seql rfl (ev_whn rfl hc) (ev_cs' (l := []) rfl)) ?_
            refine sq_plain rfl rfl rfl (w_and rfl (ev_tmp rfl) (evif_w rfl)) ?_
            refine sq_plain rfl rfl rfl (w_move rfl (ev_tmp rfl)) ?_
            refine sq_grd rfl rfl (guard_t rfl rfl rfl) (fun hc => w_fldBn 3 rfl Tryz.underlying55 rfl Tryz.sizeOf3 (ev_tmp rfl) rfl) ?_
            refine sq_grd rfl rfl (guard_t rfl rfl rfl) (fun hc => w_loadB1 0 rfl (ev_whn rfl hc) rfl Tryz.isAgg3 rfl) ?_
            refine sq_grd rfl rfl (guard_t rfl rfl rfl) (fun hc => w_eql rfl (ev_whn rfl hc) ev_ci) ?_
            refine sq_plain rfl rfl rfl (w_and rfl (ev_tmp rfl) (evif_w rfl)) ?_
            refine sq_plain rfl rfl rfl (w_assign rfl (ev_tmp rfl)) ?_
            refine sq_nil ?_
            refine awp_ret ?_
            exact retR rfl (rv_tmp' rfl (by exact congrArg AV.bool (by unfold l5Op hasValK hasByK; simp_all)))
        · intro h20
          have k20 := ne_of_beqf h20; try simp only [List.length_map] at k20
          refine awp_region ?_
          refine sq_plain rfl rfl rfl (w_eql rfl (ev_tmp rfl) ev_ci) ?_
          refine sq_plain rfl rfl rfl (w_assign rfl (ev_tmp rfl)) ?_
          refine sq_nil ?_
          refine awp_cond (ev_tmp rfl) ?_ ?_
          · intro h20
            have k20 := eq_of_beqt h20; try simp only [List.length_map] at k20
            refine awp_seq ?_
            refine awp_region ?_
            refine sq_plain rfl rfl rfl (w_fldBn 2 rfl Tryz.underlying55 rfl Tryz.sizeOf9 (ev_tmp rfl) rfl) ?_
            refine sq_plain rfl rfl rfl (w_loadB1 0 rfl (ev_tmp rfl) rfl Tryz.isAgg9 rfl) ?_
            refine sq_plain rfl rfl rfl (w_seql rfl (ev_tmp rfl) (ev_cs' (l := []) rfl)) ?_
            refine sq_plain rfl rfl rfl (w_move rfl (ev_tmp rfl)) ?_
            refine sq_grd rfl rfl (guard_t rfl rfl rfl) (fun hc => w_fldBn 3 rfl Tryz.underlying55 rfl Tryz.sizeOf3 (ev_tmp rfl) rfl) ?_
            refine sq_grd rfl rfl (guard_t rfl rfl rfl) (fun hc => w_loadB1 0 rfl (ev_whn rfl hc) rfl Tryz.isAgg3 rfl) ?_
            refine sq_grd rfl rfl (guard_t rfl rfl rfl) (fun hc => w_call rfl Tryz.call109 rfl (l1In_spec _ _ _) (evl_cons (ev_whn rfl hc) (evl_cons ev_ci (evl_cons ev_ci evl_nil)))) ?_
            refine sq_plain rfl rfl rfl (w_and rfl (ev_tmp rfl) (evif_w rfl)) ?_
            refine sq_plain rfl rfl rfl (w_assign rfl (ev_tmp rfl)) ?_
            refine sq_nil ?_
            refine awp_ret ?_
            exact retR rfl (rv_tmp' rfl (by exact congrArg AV.bool (by unfold l5Op hasValK hasByK; simp_all)))
          · intro h20
            have k20 := ne_of_beqf h20; try simp only [List.length_map] at k20
            refine awp_skip ?_
            refine awp_seq ?_
            refine awp_region ?_
            refine sq_plain rfl rfl rfl (w_fldBn 0 rfl Tryz.underlying55 rfl Tryz.sizeOf3 (ev_tmp rfl) rfl) ?_
            refine sq_plain rfl rfl rfl (w_loadB1 0 rfl (ev_tmp rfl) rfl Tryz.isAgg3 rfl) ?_
            refine sq_plain rfl rfl rfl (w_eql rfl (ev_tmp rfl) ev_ci) ?_
            refine sq_plain rfl rfl rfl (w_move rfl (ev_tmp rfl)) ?_
            refine sq_grd rfl rfl (guard_f rfl rfl rfl) (fun hc => w_fldBn 0 rfl Tryz.underlying55 rfl Tryz.sizeOf3 (ev_tmp rfl) rfl) ?_
            refine sq_grd rfl rfl (guard_f rfl rfl rfl) (fun hc => w_loadB1 0 rfl (ev_whn rfl hc) rfl Tryz.isAgg3 rfl) ?_
            refine sq_grd rfl rfl (guard_f rfl rfl rfl) (fun hc => w_eql rfl (ev_whn rfl hc) ev_ci) ?_
            refine sq_plain rfl rfl rfl (w_or rfl (ev_tmp rfl) (evif_w rfl)) ?_
            refine sq_plain rfl rfl rfl (w_move rfl (ev_tmp rfl)) ?_
            refine sq_grd rfl rfl (guard_f rfl rfl rfl) (fun hc => w_fldBn 0 rfl Tryz.underlying55 rfl Tryz.sizeOf3 (ev_tmp rfl) rfl) ?_
            refine sq_grd rfl rfl (guard_f rfl rfl rfl) (fun hc => w_loadB1 0 rfl (ev_whn rfl hc) rfl Tryz.isAgg3 rfl) ?_
            refine sq_grd rfl rfl (guard_f rfl rfl rfl) (fun hc => w_eql rfl (ev_whn rfl hc) ev_ci) ?_
            refine sq_plain rfl rfl rfl (w_or rfl (ev_tmp rfl) (evif_w rfl)) ?_
            refine sq_plain rfl rfl rfl (w_move rfl (ev_tmp rfl)) ?_
            refine sq_grd rfl rfl (guard_t rfl rfl rfl) (fun hc => w_fldBn 2 rfl Tryz.underlying55 rfl Tryz.sizeOf9 (ev_tmp rfl) rfl) ?_
            refine sq_grd rfl rfl (guard_t rfl rfl rfl) (fun hc => w_loadB1 0 rfl (ev_whn rfl hc) rfl Tryz.isAgg9 rfl) ?_
            refine sq_grd rfl rfl (guard_t rfl rfl rfl) (fun hc => w_seql rfl (ev_whn rfl hc) (ev_cs' (l := []) rfl)) ?_
            refine sq_plain rfl rfl rfl (w_and rfl (ev_tmp rfl) (evif_w rfl)) ?_
            refine sq_plain rfl rfl rfl (w_move rfl (ev_tmp rfl)) ?_
            refine sq_grd rfl rfl (guard_t rfl rfl rfl) (fun hc => w_fldBn 3 rfl Tryz.underlying55 rfl Tryz.sizeOf3 (ev_tmp rfl) rfl) ?_
            refine sq_grd rfl rfl (guard_t rfl rfl rfl) (fun hc => w_loadB1 0 rfl (ev_whn rfl hc) rfl Tryz.isAgg3 rfl) ?_
            refine sq_grd rfl rfl (guard_t rfl rfl rfl) (fun hc => w_eql rfl (ev_whn rfl hc) ev_ci) ?_
            refine sq_plain rfl rfl rfl (w_and rfl (ev_tmp rfl) (evif_w rfl)) ?_
            refine sq_plain rfl rfl rfl (w_assign rfl (ev_tmp rfl)) ?_
            refine sq_nil ?_
            refine awp_ret ?_
            exact retR rfl (rv_tmp' rfl (by exact congrArg AV.bool (by unfold l5Op hasValK hasByK; simp_all)))
    · intro h9
      have k9 := ne_of_beqf h9; try simp only [List.length_map] at k9
      refine awp_region ?_
      refine sq_plain rfl rfl rfl (w_eql rfl (ev_tmp rfl) ev_ci) ?_
      refine sq_plain rfl rfl rfl (w_assign rfl (ev_tmp rfl)) ?_
      refine sq_nil ?_
      refine awp_cond (ev_tmp rfl) ?_ ?_
      · intro h9
        have k9 := eq_of_beqt h9; try simp only [List.length_map] at k9
        refine awp_seq ?_
        refine awp_region ?_
        refine sq_plain rfl rfl rfl (w_fldBn 2 rfl Tryz.underlying55 rfl Tryz.sizeOf9 (ev_tmp rfl) rfl) ?_
        refine sq_plain rfl rfl rfl (w_loadB1 0 rfl (ev_tmp rfl) rfl Tryz.isAgg9 rfl) ?_
        refine sq_plain rfl rfl rfl (w_call rfl Tryz.call144 rfl (l3Val_spec _ (by omega)) (evl_cons (ev_tmp rfl) evl_nil)) ?_
        refine sq_plain rfl rfl rfl (w_move rfl (ev_tmp rfl)) ?_
        refine sq_grd rfl rfl (guard_t rfl rfl rfl) (fun hc => w_fldBn 3 rfl Tryz.underlying55 rfl Tryz.sizeOf3 (ev_tmp rfl) rfl) ?_
        refine sq_grd rfl rfl (guard_t rfl rfl rfl) (fun hc => w_loadB1 0 rfl (ev_whn rfl hc) rfl Tryz.isAgg3 rfl) ?_
        refine sq_grd rfl rfl (guard_t rfl rfl rfl) (fun hc => w_eql rfl (ev_whn rfl hc) ev_ci) ?_
        refine sq_plain rfl rfl rfl (w_and rfl (ev_tmp rfl) (evif_w rfl)) ?_
        refine sq_plain rfl rfl rfl (w_assign rfl (ev_tmp rfl)) ?_
        refine sq_nil ?_
        refine awp_ret ?_
        exact retR rfl (rv_tmp' rfl (by exact congrArg AV.bool (by unfold l5Op hasValK hasByK; simp_all)))
      · intro h9
        have k9 := ne_of_beqf h9; try simp only [List.length_map] at k9
        refine awp_seq ?_
        refine awp_seq ?_
        refine awp_region ?_
        refine sq_plain rfl rfl rfl (w_eql rfl (ev_tmp rfl) ev_ci) ?_
        refine sq_plain rfl rfl rfl (w_assign rfl (ev_tmp rfl)) ?_
        refine sq_nil ?_
        refine awp_cond (ev_tmp rfl) ?_ ?_
        · intro h20
          have k20 := eq_of_beqt h20; try simp only [List.length_map] at k20
          refine awp_skip ?_
          refine awp_cond (ev_tmp rfl) ?_ ?_
          · intro h20
            have k20 := eq_of_beqt h20; try simp only [List.length_map] at k20
            refine awp_seq ?_
            refine awp_region ?_
            refine sq_plain rfl rfl rfl (w_fldBn 2 rfl Tryz.underlying55 rfl Tryz.sizeOf9 (ev_tmp rfl) rfl) ?_
            refine sq_plain rfl rfl rfl (w_loadB1 0 rfl (ev_tmp rfl) rfl Tryz.isAgg9 rfl) ?_
            refine sq_plain rfl rfl rfl (w_seql rfl (ev_tmp rfl) (ev_cs' (l := []) rfl)) ?_
            refine sq_plain rfl rfl rfl (w_move rfl (ev_tmp rfl)) ?_
            refine sq_grd rfl rfl (guard_t rfl rfl rfl) (fun hc => w_fldBn 3 rfl Tryz.underlying55 rfl Tryz.sizeOf3 (ev_tmp rfl) rfl) ?_
            refine sq_grd rfl rfl (guard_t rfl rfl rfl) (fun hc => w_loadB1 0 rfl (ev_whn rfl hc) rfl Tryz.isAgg3 rfl) ?_
            refine sq_grd rfl rfl (guard_t rfl rfl rfl) (fun hc => w_call rfl Tryz.call109 rfl (l1In_spec _ _ _) (evl_cons (ev_whn rfl hc) (evl_cons ev_ci (evl_cons ev_ci evl_nil)))) ?_
            refine sq_plain rfl rfl rfl (w_and rfl (ev_tmp rfl) (evif_w rfl)) ?_
            refine sq_plain rfl rfl rfl (w_assign rfl (ev_tmp rfl)) ?_
            refine sq_nil ?_
            refine awp_ret ?_
            exact retR rfl (rv_tmp' rfl (by exact congrArg AV.bool (by unfold l5Op hasValK hasByK; simp_all)))
          · intro h20
            have k20 := ne_of_beqf h20; try simp only [List.length_map] at k20
            refine awp_skip ?_
            refine awp_seq ?_
            refine awp_region ?_
            refine sq_plain rfl rfl rfl (w_fldBn 0 rfl Tryz.underlying55 rfl Tryz.sizeOf3 (ev_tmp rfl) rfl) ?_
            refine sq_plain rfl rfl rfl (w_loadB1 0 rfl (ev_tmp rfl) rfl Tryz.isAgg3 rfl) ?_
            refine sq_plain rfl rfl rfl (w_eql rfl (ev_tmp rfl) ev_ci) ?_
            refine sq_plain rfl rfl rfl (w_move rfl (ev_tmp rfl)) ?_
            refine sq_grd rfl rfl (guard_f rfl rfl rfl) (fun hc => w_fldBn 0 rfl Tryz.underlying55 rfl Tryz.sizeOf3 (ev_tmp rfl) rfl) ?_
            refine sq_grd rfl rfl (guard_f rfl rfl rfl) (fun hc => w_loadB1 0 rfl (ev_whn rfl hc) rfl Tryz.isAgg3 rfl) ?_
            refine sq_grd rfl rfl (guard_f rfl rfl rfl) (fun hc => w_eql rfl (ev_whn rfl hc) ev_ci) ?_
            refine sq_plain rfl rfl rfl (w_or rfl (ev_tmp rfl) (evif_w rfl)) ?_
            refine sq_plain rfl rfl rfl (w_move rfl (ev_tmp rfl)) ?_
            refine sq_grd rfl rfl (guard_f rfl rfl rfl) (fun hc => w_fldBn 0 rfl Tryz.underlying55 rfl Tryz.sizeOf3 (ev_tmp rfl) rfl) ?_
            refine sq_grd rfl rfl (guard_f rfl rfl rfl) (fun hc => w_loadB1 0 rfl (ev_whn rfl hc) rfl Tryz.isAgg3 rfl) ?_
            refine sq_grd rfl rfl (guard_f rfl rfl rfl) (fun hc => w_eql rfl (ev_whn rfl hc) ev_ci) ?_
            refine sq_plain rfl rfl rfl (w_or rfl (ev_tmp rfl) (evif_w rfl)) ?_
            refine sq_plain rfl rfl rfl (w_move rfl (ev_tmp rfl)) ?_
            refine sq_grd rfl rfl (guard_t rfl rfl rfl) (fun hc => w_fldBn 2 rfl Tryz.underlying55 rfl Tryz.sizeOf9 (ev_tmp rfl) rfl) ?_
            refine sq_grd rfl rfl (guard_t rfl rfl rfl) (fun hc => w_loadB1 0 rfl (ev_whn rfl hc) rfl Tryz.isAgg9 rfl) ?_
            refine sq_grd rfl rfl (guard_t rfl rfl rfl) (fun hc => w_seql rfl (ev_whn rfl hc) (ev_cs' (l := []) rfl)) ?_
            refine sq_plain rfl rfl rfl (w_and rfl (ev_tmp rfl) (evif_w rfl)) ?_
            refine sq_plain rfl rfl rfl (w_move rfl (ev_tmp rfl)) ?_
            refine sq_grd rfl rfl (guard_t rfl rfl rfl) (fun hc => w_fldBn 3 rfl Tryz.underlying55 rfl Tryz.sizeOf3 (ev_tmp rfl) rfl) ?_
            refine sq_grd rfl rfl (guard_t rfl rfl rfl) (fun hc => w_loadB1 0 rfl (ev_whn rfl hc) rfl Tryz.isAgg3 rfl) ?_
            refine sq_grd rfl rfl (guard_t rfl rfl rfl) (fun hc => w_eql rfl (ev_whn rfl hc) ev_ci) ?_
            refine sq_plain rfl rfl rfl (w_and rfl (ev_tmp rfl) (evif_w rfl)) ?_
            refine sq_plain rfl rfl rfl (w_assign rfl (ev_tmp rfl)) ?_
            refine sq_nil ?_
            refine awp_ret ?_
            exact retR rfl (rv_tmp' rfl (by exact congrArg AV.bool (by unfold l5Op hasValK hasByK; simp_all)))
        · intro h20
          have k20 := ne_of_beqf h20; try simp only [List.length_map] at k20
          refine awp_region ?_
          refine sq_plain rfl rfl rfl (w_eql rfl (ev_tmp rfl) ev_ci) ?_
          refine sq_plain rfl rfl rfl (w_assign rfl (ev_tmp rfl)) ?_
          refine sq_nil ?_
          refine awp_cond (ev_tmp rfl) ?_ ?_
          · intro h20
            have k20 := eq_of_beqt h20; try simp only [List.length_map] at k20
            refine awp_seq ?_
            refine awp_region ?_
            refine sq_plain rfl rfl rfl (w_fldBn 2 rfl Tryz.underlying55 rfl Tryz.sizeOf9 (ev_tmp rfl) rfl) ?_
            refine sq_plain rfl rfl rfl (w_loadB1 0 rfl (ev_tmp rfl) rfl Tryz.isAgg9 rfl) ?_
            refine sq_plain rfl rfl rfl (w_seql rfl (ev_tmp rfl) (ev_cs' (l := []) rfl)) ?_
            refine sq_plain rfl rfl rfl (w_move rfl (ev_tmp rfl)) ?_
            refine sq_grd rfl rfl (guard_t rfl rfl rfl) (fun hc => w_fldBn 3 rfl Tryz.underlying55 rfl Tryz.sizeOf3 (ev_tmp rfl) rfl) ?_
            refine sq_grd rfl rfl (guard_t rfl rfl rfl) (fun hc => w_loadB1 0 rfl (ev_whn rfl hc) rfl Tryz.isAgg3 rfl) ?_
            refine sq_grd rfl rfl (guard_t rfl rfl rfl) (fun hc => w_call rfl Tryz.call109 rfl (l1In_spec _ _ _) (evl_cons (ev_whn rfl hc) (evl_cons ev_ci (evl_cons ev_ci evl_nil)))) ?_
            refine sq_plain rfl rfl rfl (w_and rfl (ev_tmp rfl) (evif_w rfl)) ?_
            refine sq_plain rfl rfl rfl (w_assign rfl (ev_tmp rfl)) ?_
            refine sq_nil ?_
            refine awp_ret ?_
            exact retR rfl (rv_tmp' rfl (by exact congrArg AV.bool (by unfold l5Op hasValK hasByK; simp_all)))
          · intro h20
            have k20 := ne_of_beqf h20; try simp only [List.length_map] at k20
            refine awp_skip ?_
            refine awp_seq ?_
            refine awp_region ?_
            refine sq_plain rfl rfl rfl (w_fldBn 0 rfl Tryz.underlying55 rfl Tryz.sizeOf3 (ev_tmp rfl) rfl) ?_
            refine sq_plain rfl rfl rfl (w_loadB1 0 rfl (ev_tmp rfl) rfl Tryz.isAgg3 rfl) ?_
            refine sq_plain rfl rfl rfl (w_eql rfl (ev_tmp rfl) ev_ci) ?_
            refine sq_plain rfl rfl rfl (w_move rfl (ev_tmp rfl)) ?_
            refine sq_grd rfl rfl (guard_f rfl rfl rfl) (fun hc => w_fldBn 0 rfl Tryz.underlying55 rfl Tryz.sizeOf3 (ev_tmp rfl) rfl) ?_
            refine sq_grd rfl rfl (guard_f rfl rfl rfl) (fun hc => w_loadB1 0 rfl (ev_whn rfl hc) rfl Tryz.isAgg3 rfl) ?_
            refine sq_grd rfl rfl (guard_f rfl rfl rfl) (fun hc => w_eql rfl (ev_whn rfl hc) ev_ci) ?_
            refine sq_plain rfl rfl rfl (w_or rfl (ev_tmp rfl) (evif_w rfl)) ?_
            refine sq_plain rfl rfl rfl (w_move rfl (ev_tmp rfl)) ?_
            refine sq_grd rfl rfl (guard_f rfl rfl rfl) (fun hc => w_fldBn 0 rfl Tryz.underlying55 rfl Tryz.sizeOf3 (ev_tmp rfl) rfl) ?_
            refine sq_grd rfl rfl (guard_f rfl rfl rfl) (fun hc => w_loadB1 0 rfl (ev_whn rfl hc) rfl Tryz.isAgg3 rfl) ?_
            refine sq_grd rfl rfl (guard_f rfl rfl rfl) (fun hc => w_eql rfl (ev_whn rfl hc) ev_ci) ?_
            refine sq_plain rfl rfl rfl (w_or rfl (ev_tmp rfl) (evif_w rfl)) ?_
            refine sq_plain rfl rfl rfl (w_move rfl (ev_tmp rfl)) ?_
            refine sq_grd rfl rfl (guard_t rfl rfl rfl) (fun hc => w_fldBn 2 rfl Tryz.underlying55 rfl Tryz.sizeOf9 (ev_tmp rfl) rfl) ?_
            refine sq_grd rfl rfl (guard_t rfl rfl rfl) (fun hc => w_loadB1 0 rfl (ev_whn rfl hc) rfl Tryz.isAgg9 rfl) ?_
            refine sq_grd rfl rfl (guard_t rfl rfl rfl) (fun hc => w_seql rfl (ev_whn rfl hc) (ev_cs' (l := []) rfl)) ?_
            refine sq_plain rfl rfl rfl (w_and rfl (ev_tmp rfl) (evif_w rfl)) ?_
            refine sq_plain rfl rfl rfl (w_move rfl (ev_tmp rfl)) ?_
            refine sq_grd rfl rfl (guard_t rfl rfl rfl) (fun hc => w_fldBn 3 rfl Tryz.underlying55 rfl Tryz.sizeOf3 (ev_tmp rfl) rfl) ?_
            refine sq_grd rfl rfl (guard_t rfl rfl rfl) (fun hc => w_loadB1 0 rfl (ev_whn rfl hc) rfl Tryz.isAgg3 rfl) ?_
            refine sq_grd rfl rfl (guard_t rfl rfl rfl) (fun hc => w_eql rfl (ev_whn rfl hc) ev_ci) ?_
            refine sq_plain rfl rfl rfl (w_and rfl (ev_tmp rfl) (evif_w rfl)) ?_
            refine sq_plain rfl rfl rfl (w_assign rfl (ev_tmp rfl)) ?_
            refine sq_nil ?_
            refine awp_ret ?_
            exact retR rfl (rv_tmp' rfl (by exact congrArg AV.bool (by unfold l5Op hasValK hasByK; simp_all)))
theorem l5Good_spec (l : List TOp) (hs : sizeL TOp.size l ≤ 1048576) : FSpec Tryz.prog 39 [AV.list 4 (l.map TOp.cs)] (AV.bool (l5Good l)) := by
  refine spec_of_awp Tryz.func39 rfl Tryz.ntmps39 rfl ?_
  refine awp_len (t := 0) rfl fun hl => ?_
  try simp only [List.length_map] at hl
  refine awp_seq ?_
  refine awp_region ?_
  refine sq_plain rfl rfl rfl (w_assign rfl ev_cb) ?_
  refine sq_nil ?_
  refine awp_seq ?_
  refine awp_seq ?_
  refine awp_region ?_
  refine sq_plain rfl rfl rfl (w_move rfl (ev_tmp rfl)) ?_
  refine sq_plain rfl rfl rfl (w_llen rfl Tryz.underlying24 (ev_tmp rfl)) ?_
  refine sq_plain rfl rfl rfl (w_move rfl ev_ci) ?_
  refine sq_nil ?_
  refine awp_block ?_
  refine awp_loop_i [(0, _), (5, _), (6, _)] _ (fun (i : Nat) => i ≤ l.length ∧ l.all l5Op = (l.drop i).all l5Op) (fun (i : Nat) => []) (fun (i : Nat) => [(7, AV.int i)]) (fun (i : Nat) => l.length - i) (0) ?_ (le_env ⟨rfl, rfl, rfl, rfl, trivial⟩) ?_
  · exact ⟨Nat.zero_le _, rfl⟩
  intro i hinv
  refine awp_seq ?_
  refine awp_region ?_
  refine sq_plain rfl rfl rfl (w_lss rfl (ev_tmp rfl) (ev_tmp rfl)) ?_
  refine sq_nil ?_
  refine awp_seq ?_
  refine awp_cond (ev_tmp rfl) ?_ ?_
  · intro h8
    have k8 := of_decide_eq_true h8; try simp only [List.length_map] at k8
    have hlt : i < l.length := by omega
    obtain ⟨x, hx⟩ := get_some hlt
    have hsx : x.size ≤ 1048576 := Nat.le_trans (sizeL_get hx) hs
    refine awp_skip ?_
    refine awp_seq ?_
    refine awp_block ?_
    refine awp_seq ?_
    refine awp_region ?_
    refine sq_plain rfl rfl rfl (w_idxm rfl Tryz.underlying24 Tryz.sizeOf55 (ev_tmp rfl) (ev_tmp rfl) hx (by first | omega | ((try simp only [List.length_map, List.length_take, List.length_cons, List.length_nil, chunks_len, szR] at *); omega) | (have hc2 := hc; simp only [Bool.and_eq_true, Bool.or_eq_true, Bool.or_eq_false_iff, Bool.and_eq_false_iff, Bool.not_eq_true', Bool.not_eq_false', decide_eq_true_eq, decide_eq_false_iff_not, beq_iff_eq, bne_iff_ne, List.length_map, List.length_take] at hc2; omega))) ?_
    refine sq_plain rfl rfl rfl (w_loadE rfl (ev_tmp rfl) Tryz.isAgg55 Tryz.sizeOf55) ?_
    refine sq_alloc rfl rfl rfl rfl Tryz.zeroValue55 rfl ?_
    intro b4
    refine sq_storeB0 0 rfl rfl rfl (ev_tmp rfl) (ev_tmp rfl) (as_agg _) rfl Tryz.sizeOf55 rfl ?_
    refine sq_nil ?_
    refine awp_seq ?_
    refine awp_region ?_
    refine sq_plain rfl rfl rfl (w_loadA 0 rfl (ev_tmp rfl) rfl Tryz.isAgg55 Tryz.sizeOf55 rfl) ?_
    refine sq_plain rfl rfl rfl (w_call rfl Tryz.call98 rfl (l5Op_spec _ (by first | assumption | omega)) (evl_cons (ev_tmp rfl) evl_nil)) ?_
    refine sq_plain rfl rfl rfl (w_not rfl (ev_tmp rfl)) ?_
    refine sq_nil ?_
    refine awp_cond (ev_tmp rfl) ?_ ?_
    · intro h13
      have hno : l5Good l = false := by (unfold l5Good; rw [hinv.2, drop_some hx, List.all_cons]; simp_all)
      rw [hno]
      refine awp_seq ?_
      refine awp_region ?_
      refine sq_plain rfl rfl rfl (w_assign rfl ev_cb) ?_
      refine sq_nil ?_
      refine awp_ret ?_
      exact retR rfl (rv_tmp' rfl (by first | rfl | exact congrArg AV.bool (by unfold l5Good; rw [hall]; simp)))
    · intro h13
      refine awp_skip ?_
      refine awp_region ?_
      refine sq_plain rfl rfl rfl (w_addi rfl (ev_tmp rfl) ev_ci (by first | omega | ((try simp only [List.length_map, List.length_take, List.length_cons, List.length_nil, chunks_len, szR] at *); omega) | (have hc2 := hc; simp only [Bool.and_eq_true, Bool.or_eq_true, Bool.or_eq_false_iff, Bool.and_eq_false_iff, Bool.not_eq_true', Bool.not_eq_false', decide_eq_true_eq, decide_eq_false_iff_not, beq_iff_eq, bne_iff_ne, List.length_map, List.length_take] at hc2; omega))) ?_
      refine sq_plain rfl rfl rfl (w_move rfl (ev_tmp rfl)) ?_
      refine sq_nil ?_
      refine round_end i (i + 1) ?_ ?_ (le_drop 1 ⟨rfl, rfl, rfl, rfl, trivial⟩)
      · exact ⟨by omega, by rw [hinv.2, drop_some hx, List.all_cons]; simp_all⟩
      · omega
  · intro h8
    have k8 := of_decide_eq_false h8; try simp only [List.length_map] at k8
    have hge : l.length ≤ i := by omega
    have hall : l.all l5Op = true := by (rw [hinv.2, List.drop_eq_nil_of_le hge]; rfl)
    refine awp_exit ?_
    refine awp_seq ?_
    refine awp_region ?_
    refine sq_plain rfl rfl rfl (w_move rfl (ev_tmp rfl)) ?_
    refine sq_plain rfl rfl rfl (w_llen rfl Tryz.underlying24 (ev_tmp rfl)) ?_
    refine sq_plain rfl rfl rfl (w_leq rfl (ev_tmp rfl) ev_ci) ?_
    refine sq_plain rfl rfl rfl (w_assign rfl (ev_tmp rfl)) ?_
    refine sq_nil ?_
    refine awp_ret ?_
    exact retR rfl (rv_tmp' rfl (by first | rfl | exact congrArg AV.bool (by unfold l5Good; rw [hall]; simp)))
theorem l5OpsText_spec (l : List TOp) (hg : goodOps l = true) : FSpec Tryz.prog 40 [AV.list 4 (l.map TOp.cs)] (AV.str (opsB l)) := by
  have hl8 := goodOps_len hg
  have hlb := opsB_len hg
  refine spec_of_awp Tryz.func40 rfl Tryz.ntmps40 rfl ?_
  refine awp_seq ?_
  refine awp_region ?_
  refine sq_plain rfl rfl rfl (w_assign rfl (ev_cs' (l := []) rfl)) ?_
  refine sq_nil ?_
  refine awp_seq ?_
  refine awp_region ?_
  refine sq_plain rfl rfl rfl (w_assign rfl (ev_cs' (l := []) rfl)) ?_
  refine sq_nil ?_
  refine awp_seq ?_
  refine awp_seq ?_
  refine awp_region ?_
  refine sq_plain rfl rfl rfl (w_move rfl (ev_tmp rfl)) ?_
  refine sq_plain rfl rfl rfl (w_llen rfl Tryz.underlying24 (ev_tmp rfl)) ?_
  refine sq_plain rfl rfl rfl (w_move rfl ev_ci) ?_
  refine sq_nil ?_
  refine awp_block ?_
  refine awp_loop_i [(2, _), (6, _), (7, _)] _ (fun (i : Nat) => i ≤ l.length ∧ (opsB (l.take i)).length ≤ 416) (fun (i : Nat) => []) (fun (i : Nat) => [(3, AV.str (opsB (l.take i))), (8, AV.int i)]) (fun (i : Nat) => l.length - i) (0) ?_ (le_env ⟨rfl, rfl, rfl, rfl, rfl, trivial⟩) ?_
  · exact ⟨Nat.zero_le _, by simp [opsB, joinW]⟩
  intro i hinv
  refine awp_seq ?_
  refine awp_region ?_
  refine sq_plain rfl rfl rfl (w_lss rfl (ev_tmp rfl) (ev_tmp rfl)) ?_
  refine sq_nil ?_
  refine awp_seq ?_
  refine awp_cond (ev_tmp rfl) ?_ ?_
  · intro h9
    have k9 := of_decide_eq_true h9; try simp only [List.length_map] at k9
    have hlt : i < l.length := by omega
    obtain ⟨x, hx⟩ := get_some hlt
    have hxg := goodOps_is hg x (List.mem_of_getElem? hx)
    have hxo := goodO hxg
    have hkn := hxo.kind
    have hw4 := word_len hxo.kind
    have hkv := isOp_lens hxg
    have hi5 := itoa_len5 hxo.by'
    have hby := hxo.by'
    refine awp_skip ?_
    refine awp_seq ?_
    refine awp_block ?_
    refine awp_seq ?_
    refine awp_region ?_
    refine sq_plain rfl rfl rfl (w_move rfl (ev_tmp rfl)) ?_
    refine sq_plain rfl rfl rfl (w_idxm rfl Tryz.underlying24 Tryz.sizeOf55 (ev_tmp rfl) (ev_tmp rfl) hx (by first | omega | ((try simp only [List.length_map, List.length_take, List.length_cons, List.length_nil, chunks_len, szR] at *); omega) | (have hc2 := hc; simp only [Bool.and_eq_true, Bool.or_eq_true, Bool.or_eq_false_iff, Bool.and_eq_false_iff, Bool.not_eq_true', Bool.not_eq_false', decide_eq_true_eq, decide_eq_false_iff_not, beq_iff_eq, bne_iff_ne, List.length_map, List.length_take] at hc2; omega))) ?_
    refine sq_plain rfl rfl rfl (w_loadE rfl (ev_tmp rfl) Tryz.isAgg55 Tryz.sizeOf55) ?_
    refine sq_alloc rfl rfl rfl rfl Tryz.zeroValue55 rfl ?_
    intro b5
    refine sq_plain rfl rfl rfl (w_assign rfl (ev_tmp rfl)) ?_
    refine sq_storeB0 0 rfl rfl rfl (ev_tmp rfl) (ev_tmp rfl) (as_agg _) rfl Tryz.sizeOf55 rfl ?_
    refine sq_nil ?_
    refine awp_seq ?_
    refine awp_seq ?_
    refine awp_region ?_
    refine sq_plain rfl rfl rfl (w_move rfl (ev_tmp rfl)) ?_
    refine sq_plain rfl rfl rfl (w_gtr rfl (ev_tmp rfl) ev_ci) ?_
    refine sq_nil ?_
    refine awp_cond (ev_tmp rfl) ?_ ?_
    · intro h14
      have k14 := of_decide_eq_true h14; try simp only [List.length_map] at k14
      refine awp_region ?_
      refine sq_plain rfl rfl rfl (w_move rfl (ev_tmp rfl)) ?_
      refine sq_plain rfl rfl rfl (w_cat rfl (ev_tmp rfl) (ev_cs' (l := [59, 32]) rfl) (by first | omega | (simp only [List.length_append, List.length_take, List.length_drop, List.length_cons, List.length_nil]; omega))) ?_
      refine sq_plain rfl rfl rfl (w_assign rfl (ev_tmp rfl)) ?_
      refine sq_nil ?_
      refine awp_seq ?_
      refine awp_region_any (by kernel_rfl) (by kernel_rfl) rfl ?_
      refine ch_plain rfl rfl (w_move rfl (ev_tmp rfl)) ?_
      refine ch_plain rfl rfl (w_call rfl Tryz.call99 rfl (l5Words_spec) evl_nil) ?_
      refine ch_plain rfl rfl (w_fldBn 0 rfl Tryz.underlying55 rfl Tryz.sizeOf3 (ev_tmp rfl) rfl) ?_
      refine ch_plain rfl rfl (w_loadB1 0 rfl (ev_tmp rfl) rfl Tryz.isAgg3 rfl) ?_
      refine ch_plain rfl rfl (w_idx rfl Tryz.underlying34 Tryz.sizeOf9 (ev_tmp rfl) (ev_tmp rfl) (by omega) (word_get hxo.kind)) ?_
      refine ch_plain rfl rfl (w_loadE1 rfl (ev_tmp rfl) Tryz.isAgg9 rfl) ?_
      refine ch_plain rfl rfl (w_cat rfl (ev_tmp rfl) (ev_cs' (l := [32]) rfl) (by first | omega | (simp only [List.length_append, List.length_take, List.length_drop, List.length_cons, List.length_nil]; omega))) ?_
      refine ch_plain rfl rfl (w_fldBn 1 rfl Tryz.underlying55 rfl Tryz.sizeOf9 (ev_tmp rfl) rfl) ?_
      refine ch_plain rfl rfl (w_loadB1 0 rfl (ev_tmp rfl) rfl Tryz.isAgg9 rfl) ?_
      refine ch_plain rfl rfl (w_cat rfl (ev_tmp rfl) (ev_tmp rfl) (by first | omega | (simp only [List.length_append, List.length_take, List.length_drop, List.length_cons, List.length_nil]; omega))) ?_
      refine ch_plain rfl rfl (w_cat rfl (ev_tmp rfl) (ev_tmp rfl) (by first | omega | (simp only [List.length_append, List.length_take, List.length_drop, List.length_cons, List.length_nil]; omega))) ?_
      refine ch_plain rfl rfl (w_assign rfl (ev_tmp rfl)) ?_
      refine ch_nil ?_
      refine awp_seq ?_
      refine awp_region ?_
      refine sq_plain rfl rfl rfl (w_fldBn 0 rfl Tryz.underlying55 rfl Tryz.sizeOf3 (ev_tmp rfl) rfl) ?_
      refine sq_plain rfl rfl rfl (w_loadB1 0 rfl (ev_tmp rfl) rfl Tryz.isAgg3 rfl) ?_
      refine sq_nil ?_
      refine awp_block ?_
      refine awp_seq ?_
      refine awp_seq ?_
      refine awp_region ?_
      refine sq_plain rfl rfl rfl (w_eql rfl (ev_tmp rfl) ev_ci) ?_
      refine sq_plain rfl rfl rfl (w_assign rfl (ev_tmp rfl)) ?_
      refine sq_nil ?_
      refine awp_cond (ev_tmp rfl) ?_ ?_
      · intro h30
        have k30 := eq_of_beqt h30; try simp only [List.length_map] at k30
        refine awp_skip ?_
        refine awp_cond (ev_tmp rfl) ?_ ?_
        · intro h30
          have k30 := eq_of_beqt h30; try simp only [List.length_map] at k30
          refine awp_region ?_
          refine sq_plain rfl rfl rfl (w_move rfl (ev_tmp rfl)) ?_
          refine sq_plain rfl rfl rfl (w_fldBn 2 rfl Tryz.underlying55 rfl Tryz.sizeOf9 (ev_tmp rfl) rfl) ?_
          refine sq_plain rfl rfl rfl (w_loadB1 0 rfl (ev_tmp rfl) rfl Tryz.isAgg9 rfl) ?_
          refine sq_plain rfl rfl rfl (w_cat rfl (ev_cs' (l := [32]) rfl) (ev_tmp rfl) (by first | omega | (simp only [List.length_append, List.length_take, List.length_drop, List.length_cons, List.length_nil]; omega))) ?_
          refine sq_plain rfl rfl rfl (w_cat rfl (ev_tmp rfl) (ev_tmp rfl) (by first | omega | (simp only [List.length_append, List.length_take, List.length_drop, List.length_cons, List.length_nil]; omega))) ?_
          refine sq_plain rfl rfl rfl (w_assign rfl (ev_tmp rfl)) ?_
          refine sq_nil ?_
          refine awp_region ?_
          refine sq_plain rfl rfl rfl (w_addi rfl (ev_tmp rfl) ev_ci (by first | omega | ((try simp only [List.length_map, List.length_take, List.length_cons, List.length_nil, chunks_len, szR] at *); omega) | (have hc2 := hc; simp only [Bool.and_eq_true, Bool.or_eq_true, Bool.or_eq_false_iff, Bool.and_eq_false_iff, Bool.not_eq_true', Bool.not_eq_false', decide_eq_true_eq, decide_eq_false_iff_not, beq_iff_eq, bne_iff_ne, List.length_map, List.length_take] at hc2; omega))) ?_
          refine sq_plain rfl rfl rfl (w_move rfl (ev_tmp rfl)) ?_
          refine sq_nil ?_
          refine round_end i (i + 1) ?_ ?_ (le_drop 1 ⟨congrArg (fun z => some (AV.str z)) (by first | (exfalso; omega) | (rw [ops_next hx]; (first | rw [if_pos (show 0 < i by omega)] | rw [if_neg (show ¬ 0 < i by omega)]); simp [opB, opVal, opHd, hasValK, hasByK, *]; done)), rfl, rfl, rfl, rfl, trivial⟩)
          · exact ⟨by omega, opsB_take hg (i + 1)⟩
          · omega
        · intro h30
          have k30 := ne_of_beqf h30; try simp only [List.length_map] at k30
          refine awp_seq ?_
          refine awp_seq ?_
          refine awp_region ?_
          refine sq_plain rfl rfl rfl (w_eql rfl (ev_tmp rfl) ev_ci) ?_
          refine sq_plain rfl rfl rfl (w_assign rfl (ev_tmp rfl)) ?_
          refine sq_nil ?_
          refine awp_cond (ev_tmp rfl) ?_ ?_
          · intro h38
            have k38 := eq_of_beqt h38; try simp only [List.length_map] at k38
            refine awp_skip ?_
            refine awp_cond (ev_tmp rfl) ?_ ?_
            · intro h38
              have k38 := eq_of_beqt h38; try simp only [List.length_map] at k38
              refine awp_region ?_
              refine sq_plain rfl rfl rfl (w_move rfl (ev_tmp rfl)) ?_
              refine sq_plain rfl rfl rfl (w_fldBn 3 rfl Tryz.underlying55 rfl Tryz.sizeOf3 (ev_tmp rfl) rfl) ?_
              refine sq_plain rfl rfl rfl (w_loadB1 0 rfl (ev_tmp rfl) rfl Tryz.isAgg3 rfl) ?_
              refine sq_plain rfl rfl rfl (w_call rfl Tryz.call100 rfl (l5Text_spec _ (by omega)) (evl_cons (ev_tmp rfl) evl_nil)) ?_
              refine sq_plain rfl rfl rfl (w_cat rfl (ev_cs' (l := [32]) rfl) (ev_tmp rfl) (by first | omega | (simp only [List.length_append, List.length_take, List.length_drop, List.length_cons, List.length_nil]; omega))) ?_
              refine sq_plain rfl rfl rfl (w_cat rfl (ev_tmp rfl) (ev_tmp rfl) (by first | omega | (simp only [List.length_append, List.length_take, List.length_drop, List.length_cons, List.length_nil]; omega))) ?_
              refine sq_plain rfl rfl rfl (w_assign rfl (ev_tmp rfl)) ?_
              refine sq_nil ?_
              refine awp_region ?_
              refine sq_plain rfl rfl rfl (w_addi rfl (ev_tmp rfl) ev_ci (by first | omega | ((try simp only [List.length_map, List.length_take, List.length_cons, List.length_nil, chunks_len, szR] at *); omega) | (have hc2 := hc; simp only [Bool.and_eq_true, Bool.or_eq_true, Bool.or_eq_false_iff, Bool.and_eq_false_iff, Bool.not_eq_true', Bool.not_eq_false', decide_eq_true_eq, decide_eq_false_iff_not, beq_iff_eq, bne_iff_ne, List.length_map, List.length_take] at hc2; omega))) ?_
              refine sq_plain rfl rfl rfl (w_move rfl (ev_tmp rfl)) ?_
              refine sq_nil ?_
              refine round_end i (i + 1) ?_ ?_ (le_drop 1 ⟨congrArg (fun z => some (AV.str z)) (by first | (exfalso; omega) | (rw [ops_next hx]; (first | rw [if_pos (show 0 < i by omega)] | rw [if_neg (show ¬ 0 < i by omega)]); simp [opB, opVal, opHd, hasValK, hasByK, *]; done)), rfl, rfl, rfl, rfl, trivial⟩)
              · exact ⟨by omega, opsB_take hg (i + 1)⟩
              · omega
            · intro h38
              have k38 := ne_of_beqf h38; try simp only [List.length_map] at k38
              refine awp_skip ?_
              refine awp_region ?_
              refine sq_plain rfl rfl rfl (w_addi rfl (ev_tmp rfl) ev_ci (by first | omega | ((try simp only [List.length_map, List.length_take, List.length_cons, List.length_nil, chunks_len, szR] at *); omega) | (have hc2 := hc; simp only [Bool.and_eq_true, Bool.or_eq_true, Bool.or_eq_false_iff, Bool.and_eq_false_iff, Bool.not_eq_true', Bool.not_eq_false', decide_eq_true_eq, decide_eq_false_iff_not, beq_iff_eq, bne_iff_ne, List.length_map, List.length_take] at hc2; omega))) ?_
              refine sq_plain rfl rfl rfl (w_move rfl (ev_tmp rfl)) ?_
              refine sq_nil ?_
              refine round_end i (i + 1) ?_ ?_ (le_drop 1 ⟨congrArg (fun z => some (AV.str z)) (by first | (exfalso; omega) | (rw [ops_next hx]; (first | rw [if_pos (show 0 < i by omega)] | rw [if_neg (show ¬ 0 < i by omega)]); simp [opB, opVal, opHd, hasValK, hasByK, *]; done)), rfl, rfl, rfl, rfl, trivial⟩)
              · exact ⟨by omega, opsB_take hg (i + 1)⟩
              · omega
          · intro h38
            have k38 := ne_of_beqf h38; try simp only [List.length_map] at k38
            refine awp_region ?_
            refine sq_plain rfl rfl rfl (w_eql rfl (ev_tmp rfl) ev_ci) ?_
            refine sq_plain rfl rfl rfl (w_assign rfl (ev_tmp rfl)) ?_
            refine sq_nil ?_
            refine awp_cond (ev_tmp rfl) ?_ ?_
            · intro h38
              have k38 := eq_of_beqt h38; try simp only [List.length_map] at k38
              refine awp_region ?_
              refine sq_plain rfl rfl rfl (w_move rfl (ev_tmp rfl)) ?_
              refine sq_plain rfl rfl rfl (w_fldBn 3 rfl Tryz.underlying55 rfl Tryz.sizeOf3 (ev_tmp rfl) rfl) ?_
              refine sq_plain rfl rfl rfl (w_loadB1 0 rfl (ev_tmp rfl) rfl Tryz.isAgg3 rfl) ?_
              refine sq_plain rfl rfl rfl (w_call rfl Tryz.call100 rfl (l5Text_spec _ (by omega)) (evl_cons (ev_tmp rfl) evl_nil)) ?_
              refine sq_plain rfl rfl rfl (w_cat rfl (ev_cs' (l := [32]) rfl) (ev_tmp rfl) (by first | omega | (simp only [List.length_append, List.length_take, List.length_drop, List.length_cons, List.length_nil]; omega))) ?_
              refine sq_plain rfl rfl rfl (w_cat rfl (ev_tmp rfl) (ev_tmp rfl) (by first | omega | (simp only [List.length_append, List.length_take, List.length_drop, List.length_cons, List.length_nil]; omega))) ?_
              refine sq_plain rfl rfl rfl (w_assign rfl (ev_tmp rfl)) ?_
              refine sq_nil ?_
              refine awp_region ?_
              refine sq_plain rfl rfl rfl (w_addi rfl (ev_tmp rfl) ev_ci (by first | omega | ((try simp only [List.length_map, List.length_take, List.length_cons, List.length_nil, chunks_len, szR] at *); omega) | (have hc2 := hc; simp only [Bool.and_eq_true, Bool.or_eq_true, Bool.or_eq_false_iff, Bool.and_eq_false_iff, Bool.not_eq_true', Bool.not_eq_false', decide_eq_true_eq, decide_eq_false_iff_not, beq_iff_eq, bne_iff_ne, List.length_map, List.length_take] at hc2; omega))) ?_
              refine sq_plain rfl rfl rfl (w_move rfl (ev_tmp rfl)) ?_
              refine sq_nil ?_
              refine round_end i (i + 1) ?_ ?_ (le_drop 1 ⟨congrArg (fun z => some (AV.str z)) (by first | (exfalso; omega) | (rw [ops_next hx]; (first | rw [if_pos (show 0 < i by omega)] | rw [if_neg (show ¬ 0 < i by omega)]); simp [opB, opVal, opHd, hasValK, hasByK, *]; done)), rfl, rfl, rfl, rfl, trivial⟩)
              · exact ⟨by omega, opsB_take hg (i + 1)⟩
              · omega
            · intro h38
              have k38 := ne_of_beqf h38; try simp only [List.length_map] at k38
              refine awp_skip ?_
              refine awp_region ?_
              refine sq_plain rfl rfl rfl (w_addi rfl (ev_tmp rfl) ev_ci (by first | omega | ((try simp only [List.length_map, List.length_take, List.length_cons, List.length_nil, chunks_len, szR] at *); omega) | (have hc2 := hc; simp only [Bool.and_eq_true, Bool.or_eq_true, Bool.or_eq_false_iff, Bool.and_eq_false_iff, Bool.not_eq_true', Bool.not_eq_false', decide_eq_true_eq, decide_eq_false_iff_not, beq_iff_eq, bne_iff_ne, List.length_map, List.length_take] at hc2; omega))) ?_
              refine sq_plain rfl rfl rfl (w_move rfl (ev_tmp rfl)) ?_
              refine sq_nil ?_
              refine round_end i (i + 1) ?_ ?_ (le_drop 1 ⟨congrArg (fun z => some (AV.str z)) (by first | (exfalso; omega) | (rw [ops_next hx]; (first | rw [if_pos (show 0 < i by omega)] | rw [if_neg (show ¬ 0 < i by omega)]); simp [opB, opVal, opHd, hasValK, hasByK, *]; done)), rfl, rfl, rfl, rfl, trivial⟩)
              · exact ⟨by omega, opsB_take hg (i + 1)⟩
              · omega
      · intro h30
        have k30 := ne_of_beqf h30; try simp only [List.length_map] at k30
        refine awp_region ?_
        refine sq_plain rfl rfl rfl (w_eql rfl (ev_tmp rfl) ev_ci) ?_
        refine sq_plain rfl rfl rfl (w_assign rfl (ev_tmp rfl)) ?_
        refine sq_nil ?_
        refine awp_cond (ev_tmp rfl) ?_ ?_
        · intro h30
          have k30 := eq_of_beqt h30; try simp only [List.length_map] at k30
          refine awp_region ?_
          refine sq_plain rfl rfl rfl (w_move rfl (ev_tmp rfl)) ?_
          refine sq_plain rfl rfl rfl (w_fldBn 2 rfl Tryz.underlying55 rfl Tryz.sizeOf9 (ev_tmp rfl) rfl) ?_
          refine sq_plain rfl rfl rfl (w_loadB1 0 rfl (ev_tmp rfl) rfl Tryz.isAgg9 rfl) ?_
          refine sq_plain rfl rfl rfl (w_cat rfl (ev_cs' (l := [32]) rfl) (ev_tmp rfl) (by first | omega | (simp only [List.length_append, List.length_take, List.length_drop, List.length_cons, List.length_nil]; omega))) ?_
          refine sq_plain rfl rfl rfl (w_cat rfl (ev_tmp rfl) (ev_tmp rfl) (by first | omega | (simp only [List.length_append, List.length_take, List.length_drop, List.length_cons, List.length_nil]; omega))) ?_
          refine sq_plain rfl rfl rfl (w_assign rfl (ev_tmp rfl)) ?_
          refine sq_nil ?_
          refine awp_region ?_
          refine sq_plain rfl rfl rfl (w_addi rfl (ev_tmp rfl) ev_ci (by first | omega | ((try simp only [List.length_map, List.length_take, List.length_cons, List.length_nil, chunks_len, szR] at *); omega) | (have hc2 := hc; simp only [Bool.and_eq_true, Bool.or_eq_true, Bool.or_eq_false_iff, Bool.and_eq_false_iff, Bool.not_eq_true', Bool.not_eq_false', decide_eq_true_eq, decide_eq_false_iff_not, beq_iff_eq, bne_iff_ne, List.length_map, List.length_take] at hc2; omega))) ?_
          refine sq_plain rfl rfl rfl (w_move rfl (ev_tmp rfl)) ?_
          refine sq_nil ?_
          refine round_end i (i + 1) ?_ ?_ (le_drop 1 ⟨congrArg (fun z => some (AV.str z)) (by first | (exfalso; omega) | (rw [ops_next hx]; (first | rw [if_pos (show 0 < i by omega)] | rw [if_neg (show ¬ 0 < i by omega)]); simp [opB, opVal, opHd, hasValK, hasByK, *]; done)), rfl, rfl, rfl, rfl, trivial⟩)
          · exact ⟨by omega, opsB_take hg (i + 1)⟩
          · omega
        · intro h30
          have k30 := ne_of_beqf h30; try simp only [List.length_map] at k30
          refine awp_seq ?_
          refine awp_seq ?_
          refine awp_region ?_
          refine sq_plain rfl rfl rfl (w_eql rfl (ev_tmp rfl) ev_ci) ?_
          refine sq_plain rfl rfl rfl (w_assign rfl (ev_tmp rfl)) ?_
          refine sq_nil ?_
          refine awp_cond (ev_tmp rfl) ?_ ?_
          · intro h38
            have k38 := eq_of_beqt h38; try simp only [List.length_map] at k38
            refine awp_skip ?_
            refine awp_cond (ev_tmp rfl) ?_ ?_
            · intro h38
              have k38 := eq_of_beqt h38; try simp only [List.length_map] at k38
              refine awp_region ?_
              refine sq_plain rfl rfl rfl (w_move rfl (ev_tmp rfl)) ?_
              refine sq_plain rfl rfl rfl (w_fldBn 3 rfl Tryz.underlying55 rfl Tryz.sizeOf3 (ev_tmp rfl) rfl) ?_
              refine sq_plain rfl rfl rfl (w_loadB1 0 rfl (ev_tmp rfl) rfl Tryz.isAgg3 rfl) ?_
              refine sq_plain rfl rfl rfl (w_call rfl Tryz.call100 rfl (l5Text_spec _ (by omega)) (evl_cons (ev_tmp rfl) evl_nil)) ?_
              refine sq_plain rfl rfl rfl (w_cat rfl (ev_cs' (l := [32]) rfl) (ev_tmp rfl) (by first | omega | (simp only [List.length_append, List.length_take, List.length_drop, List.length_cons, List.length_nil]; omega))) ?_
              refine sq_plain rfl rfl rfl (w_cat rfl (ev_tmp rfl) (ev_tmp rfl) (by first | omega | (simp only [List.length_append, List.length_take, List.length_drop, List.length_cons, List.length_nil]; omega))) ?_
              refine sq_plain rfl rfl rfl (w_assign rfl (ev_tmp rfl)) ?_
              refine sq_nil ?_
              refine awp_region ?_
              refine sq_plain rfl rfl rfl (w_addi rfl (ev_tmp rfl) ev_ci (by first | omega | ((try simp only [List.length_map, List.length_take, List.length_cons, List.length_nil, chunks_len, szR] at *); omega) | (have hc2 := hc; simp only [Bool.and_eq_true, Bool.or_eq_true, Bool.or_eq_false_iff, Bool.and_eq_false_iff, Bool.not_eq_true', Bool.not_eq_false', decide_eq_true_eq, decide_eq_false_iff_not, beq_iff_eq, bne_iff_ne, List.length_map, List.length_take] at hc2; omega))) ?_
              refine sq_plain rfl rfl rfl (w_move rfl (ev_tmp rfl)) ?_
              refine sq_nil ?_
              refine round_end i (i + 1) ?_ ?_ (le_drop 1 ⟨congrArg (fun z => some (AV.str z)) (by first | (exfalso; omega) | (rw [ops_next hx]; (first | rw [if_pos (show 0 < i by omega)] | rw [if_neg (show ¬ 0 < i by omega)]); simp [opB, opVal, opHd, hasValK, hasByK, *]; done)), rfl, rfl, rfl, rfl, trivial⟩)
              · exact ⟨by omega, opsB_take hg (i + 1)⟩
              · omega
            · intro h38
              have k38 := ne_of_beqf h38; try simp only [List.length_map] at k38
              refine awp_skip ?_
              refine awp_region ?_
              refine sq_plain rfl rfl rfl (w_addi rfl (ev_tmp rfl) ev_ci (by first | omega | ((try simp only [List.length_map, List.length_take, List.length_cons, List.length_nil, chunks_len, szR] at *); omega) | (have hc2 := hc; simp only [Bool.and_eq_true, Bool.or_eq_true, Bool.or_eq_false_iff, Bool.and_eq_false_iff, Bool.not_eq_true', Bool.not_eq_false', decide_eq_true_eq, decide_eq_false_iff_not, beq_iff_eq, bne_iff_ne, List.length_map, List.length_take] at hc2; omega))) ?_
              refine sq_plain rfl rfl rfl (w_move rfl (ev_tmp rfl)) ?_
              refine sq_nil ?_
              refine round_end i (i + 1) ?_ ?_ (le_drop 1 ⟨congrArg (fun z => some (AV.str z)) (by first | (exfalso; omega) | (rw [ops_next hx]; (first | rw [if_pos (show 0 < i by omega)] | rw [if_neg (show ¬ 0 < i by omega)]); simp [opB, opVal, opHd, hasValK, hasByK, *]; done)), rfl, rfl, rfl, rfl, trivial⟩)
              · exact ⟨by omega, opsB_take hg (i + 1)⟩
              · omega
          · intro h38
            have k38 := ne_of_beqf h38; try simp only [List.length_map] at k38
            refine awp_region ?_
            refine sq_plain rfl rfl rfl (w_eql rfl (ev_tmp rfl) ev_ci) ?_
            refine sq_plain rfl rfl rfl (w_assign rfl (ev_tmp rfl)) ?_
            refine sq_nil ?_
            refine awp_cond (ev_tmp rfl) ?_ ?_
            · intro h38
              have k38 := eq_of_beqt h38; try simp only [List.length_map] at k38
              refine awp_region ?_
              refine sq_plain rfl rfl rfl (w_move rfl (ev_tmp rfl)) ?_
              refine sq_plain rfl rfl rfl (w_fldBn 3 rfl Tryz.underlying55 rfl Tryz.sizeOf3 (ev_tmp rfl) rfl) ?_
              refine sq_plain rfl rfl rfl (w_loadB1 0 rfl (ev_tmp rfl) rfl Tryz.isAgg3 rfl) ?_
              refine sq_plain rfl rfl rfl (w_call rfl Tryz.call100 rfl (l5Text_spec _ (by omega)) (evl_cons (ev_tmp rfl) evl_nil)) ?_
              refine sq_plain rfl rfl rfl (w_cat rfl (ev_cs' (l := [32]) rfl) (ev_tmp rfl) (by first | omega | (simp only [List.length_append, List.length_take, List.length_drop, List.length_cons, List.length_nil]; omega))) ?_
              refine sq_plain rfl rfl rfl (w_cat rfl (ev_tmp rfl) (ev_tmp rfl) (by first | omega | (simp only [List.length_append, List.length_take, List.length_drop, List.length_cons, List.length_nil]; omega))) ?_
              refine sq_plain rfl rfl rfl (w_assign rfl (ev_tmp rfl)) ?_
              refine sq_nil ?_
              refine awp_region ?_
              refine sq_plain rfl rfl rfl (w_addi rfl (ev_tmp rfl) ev_ci (by first | omega | ((try simp only [List.length_map, List.length_take, List.length_cons, List.length_nil, chunks_len, szR] at *); omega) | (have hc2 := hc; simp only [Bool.and_eq_true, Bool.or_eq_true, Bool.or_eq_false_iff, Bool.and_eq_false_iff, Bool.not_eq_true', Bool.not_eq_false', decide_eq_true_eq, decide_eq_false_iff_not, beq_iff_eq, bne_iff_ne, List.length_map, List.length_take] at hc2; omega))) ?_
              refine sq_plain rfl rfl rfl (w_move rfl (ev_tmp rfl)) ?_
              refine sq_nil ?_
              refine round_end i (i + 1) ?_ ?_ (le_drop 1 ⟨congrArg (fun z => some (AV.str z)) (by first | (exfalso; omega) | (rw [ops_next hx]; (first | rw [if_pos (show 0 < i by omega)] | rw [if_neg (show ¬ 0 < i by omega)]); simp [opB, opVal, opHd, hasValK, hasByK, *]; done)), rfl, rfl, rfl, rfl, trivial⟩)
              · exact ⟨by omega, opsB_take hg (i + 1)⟩
              · omega
            · intro h38
              have k38 := ne_of_beqf h38; try simp only [List.length_map] at k38
              refine awp_skip ?_
              refine awp_region ?_
              refine sq_plain rfl rfl rfl (w_addi rfl (ev_tmp rfl) ev_ci (by first | omega | ((try simp only [List.length_map, List.length_take, List.length_cons, List.length_nil, chunks_len, szR] at *); omega) | (have hc2 := hc; simp only [Bool.and_eq_true, Bool.or_eq_true, Bool.or_eq_false_iff, Bool.and_eq_false_iff, Bool.not_eq_true', Bool.not_eq_false', decide_eq_true_eq, decide_eq_false_iff_not, beq_iff_eq, bne_iff_ne, List.length_map, List.length_take] at hc2; omega))) ?_
              refine sq_plain rfl rfl rfl (w_move rfl (ev_tmp rfl)) ?_
              refine sq_nil ?_
              refine round_end i (i + 1) ?_ ?_ (le_drop 1 ⟨congrArg (fun z => some (AV.str z)) (by first | (exfalso; omega) | (rw [ops_next hx]; (first | rw [if_pos (show 0 < i by omega)] | rw [if_neg (show ¬ 0 < i by omega)]); simp [opB, opVal, opHd, hasValK, hasByK, *]; done)), rfl, rfl, rfl, rfl, trivial⟩)
              · exact ⟨by omega, opsB_take hg (i + 1)⟩
              · omega
    · intro h14
      have k14 := of_decide_eq_false h14; try simp only [List.length_map] at k14
      refine awp_skip ?_
      refine awp_seq ?_
      refine awp_region_any (by kernel_rfl) (by kernel_rfl) rfl ?_
      refine ch_plain rfl rfl (w_move rfl (ev_tmp rfl)) ?_
      refine ch_plain rfl rfl (w_call rfl Tryz.call99 rfl (l5Words_spec) evl_nil) ?_
      refine ch_plain rfl rfl (w_fldBn 0 rfl Tryz.underlying55 rfl Tryz.sizeOf3 (ev_tmp rfl) rfl) ?_
      refine ch_plain rfl rfl (w_loadB1 0 rfl (ev_tmp rfl) rfl Tryz.isAgg3 rfl) ?_
      refine ch_plain rfl rfl (w_idx rfl Tryz.underlying34 Tryz.sizeOf9 (ev_tmp rfl) (ev_tmp rfl) (by omega) (word_get hxo.kind)) ?_
      refine ch_plain rfl rfl (w_loadE1 rfl (ev_tmp rfl) Tryz.isAgg9 rfl) ?_
      refine ch_plain rfl rfl (w_cat rfl (ev_tmp rfl) (ev_cs' (l := [32]) rfl) (by first | omega | (simp only [List.length_append, List.length_take, List.length_drop, List.length_cons, List.length_nil]; omega))) ?_
      refine ch_plain rfl rfl (w_fldBn 1 rfl Tryz.underlying55 rfl Tryz.sizeOf9 (ev_tmp rfl) rfl) ?_
      refine ch_plain rfl rfl (w_loadB1 0 rfl (ev_tmp rfl) rfl Tryz.isAgg9 rfl) ?_
      refine ch_plain rfl rfl (w_cat rfl (ev_tmp rfl) (ev_tmp rfl) (by first | omega | (simp only [List.length_append, List.length_take, List.length_drop, List.length_cons, List.length_nil]; omega))) ?_
      refine ch_plain rfl rfl (w_cat rfl (ev_tmp rfl) (ev_tmp rfl) (by first | omega | (simp only [List.length_append, List.length_take, List.length_drop, List.length_cons, List.length_nil]; omega))) ?_
      refine ch_plain rfl rfl (w_assign rfl (ev_tmp rfl)) ?_
      refine ch_nil ?_
      refine awp_seq ?_
      refine awp_region ?_
      refine sq_plain rfl rfl rfl (w_fldBn 0 rfl Tryz.underlying55 rfl Tryz.sizeOf3 (ev_tmp rfl) rfl) ?_
      refine sq_plain rfl rfl rfl (w_loadB1 0 rfl (ev_tmp rfl) rfl Tryz.isAgg3 rfl) ?_
      refine sq_nil ?_
      refine awp_block ?_
      refine awp_seq ?_
      refine awp_seq ?_
      refine awp_region ?_
      refine sq_plain rfl rfl rfl (w_eql rfl (ev_tmp rfl) ev_ci) ?_
      refine sq_plain rfl rfl rfl (w_assign rfl (ev_tmp rfl)) ?_
      refine sq_nil ?_
      refine awp_cond (ev_tmp rfl) ?_ ?_
      · intro h30
        have k30 := eq_of_beqt h30; try simp only [List.length_map] at k30
        refine awp_skip ?_
        refine awp_cond (ev_tmp rfl) ?_ ?_
        · intro h30
          have k30 := eq_of_beqt h30; try simp only [List.length_map] at k30
          refine awp_region ?_
          refine sq_plain rfl rfl rfl (w_move rfl (ev_tmp rfl)) ?_
          refine sq_plain rfl rfl rfl (w_fldBn 2 rfl Tryz.underlying55 rfl Tryz.sizeOf9 (ev_tmp rfl) rfl) ?_
          refine sq_plain rfl rfl rfl (w_loadB1 0 rfl (ev_tmp rfl) rfl Tryz.isAgg9 rfl) ?_
          refine sq_plain rfl rfl rfl (w_cat rfl (ev_cs' (l := [32]) rfl) (ev_tmp rfl) (by first | omega | (simp only [List.length_append, List.length_take, List.length_drop, List.length_cons, List.length_nil]; omega))) ?_
          refine sq_plain rfl rfl rfl (w_cat rfl (ev_tmp rfl) (ev_tmp rfl) (by first | omega | (simp only [List.length_append, List.length_take, List.length_drop, List.length_cons, List.length_nil]; omega))) ?_
          refine sq_plain rfl rfl rfl (w_assign rfl (ev_tmp rfl)) ?_
          refine sq_nil ?_
          refine awp_region ?_
          refine sq_plain rfl rfl rfl (w_addi rfl (ev_tmp rfl) ev_ci (by first | omega | ((try simp only [List.length_map, List.length_take, List.length_cons, List.length_nil, chunks_len, szR] at *); omega) | (have hc2 := hc; simp only [Bool.and_eq_true, Bool.or_eq_true, Bool.or_eq_false_iff, Bool.and_eq_false_iff, Bool.not_eq_true', Bool.not_eq_false', decide_eq_true_eq, decide_eq_false_iff_not, beq_iff_eq, bne_iff_ne, List.length_map, List.length_take] at hc2; omega))) ?_
          refine sq_plain rfl rfl rfl (w_move rfl (ev_tmp rfl)) ?_
          refine sq_nil ?_
          refine round_end i (i + 1) ?_ ?_ (le_drop 1 ⟨congrArg (fun z => some (AV.str z)) (by first | (exfalso; omega) | (rw [ops_next hx]; (first | rw [if_pos (show 0 < i by omega)] | rw [if_neg (show ¬ 0 < i by omega)]); simp [opB, opVal, opHd, hasValK, hasByK, *]; done)), rfl, rfl, rfl, rfl, trivial⟩)
          · exact ⟨by omega, opsB_take hg (i + 1)⟩
          · omega
        · intro h30
          have k30 := ne_of_beqf h30; try simp only [List.length_map] at k30
          refine awp_seq ?_
          refine awp_seq ?_
          refine awp_region ?_
          refine sq_plain rfl rfl rfl (w_eql rfl (ev_tmp rfl) ev_ci) ?_
          refine sq_plain rfl rfl rfl (w_assign rfl (ev_tmp rfl)) ?_
          refine sq_nil ?_
          refine awp_cond (ev_tmp rfl) ?_ ?_
          · intro h38
            have k38 := eq_of_beqt h38; try simp only [List.length_map] at k38
            refine awp_skip ?_
            refine awp_cond (ev_tmp rfl) ?_ ?_
            · intro h38
              have k38 := eq_of_beqt h38; try simp only [List.length_map] at k38
              refine awp_region ?_
              refine sq_plain rfl rfl rfl (w_move rfl (ev_tmp rfl)) ?_
              refine sq_plain rfl rfl rfl (w_fldBn 3 rfl Tryz.underlying55 rfl Tryz.sizeOf3 (ev_tmp rfl) rfl) ?_
              refine sq_plain rfl rfl rfl (w_loadB1 0 rfl (ev_tmp rfl) rfl Tryz.isAgg3 rfl) ?_
              refine sq_plain rfl rfl rfl (w_call rfl Tryz.call100 rfl (l5Text_spec _ (by omega)) (evl_cons (ev_tmp rfl) evl_nil)) ?_
              refine sq_plain rfl rfl rfl (w_cat rfl (ev_cs' (l := [32]) rfl) (ev_tmp rfl) (by first | omega | (simp only [List.length_append, List.length_take, List.length_drop, List.length_cons, List.length_nil]; omega))) ?_
              refine sq_plain rfl rfl rfl (w_cat rfl (ev_tmp rfl) (ev_tmp rfl) (by first | omega | (simp only [List.length_append, List.length_take, List.length_drop, List.length_cons, List.length_nil]; omega))) ?_
              refine sq_plain rfl rfl rfl (w_assign rfl (ev_tmp rfl)) ?_
              refine sq_nil ?_
              refine awp_region ?_
              refine sq_plain rfl rfl rfl (w_addi rfl (ev_tmp rfl) ev_ci (by first | omega | ((try simp only [List.length_map, List.length_take, List.length_cons, List.length_nil, chunks_len, szR] at *); omega) | (have hc2 := hc; simp only [Bool.and_eq_true, Bool.or_eq_true, Bool.or_eq_false_iff, Bool.and_eq_false_iff, Bool.not_eq_true', Bool.not_eq_false', decide_eq_true_eq, decide_eq_false_iff_not, beq_iff_eq, bne_iff_ne, List.length_map, List.length_take] at hc2; omega))) ?_
              refine sq_plain rfl rfl rfl (w_move rfl (ev_tmp rfl)) ?_
              refine sq_nil ?_
              refine round_end i (i + 1) ?_ ?_ (le_drop 1 ⟨congrArg (fun z => some (AV.str z)) (by first | (exfalso; omega) | (rw [ops_next hx]; (first | rw [if_pos (show 0 < i by omega)] | rw [if_neg (show ¬ 0 < i by omega)]); simp [opB, opVal, opHd, hasValK, hasByK, *]; done)), rfl, rfl, rfl, rfl, trivial⟩)
              · exact ⟨by omega, opsB_take hg (i + 1)⟩
              · omega
            · intro h38
              have k38 := ne_of_beqf h38; try simp only [List.length_map] at k38
              refine awp_skip ?_
              refine awp_region ?_
              refine sq_plain rfl rfl rfl (w_addi rfl (ev_tmp rfl) ev_ci (by first | omega | ((try simp only [List.length_map, List.length_take, List.length_cons, List.length_nil, chunks_len, szR] at *); omega) | (have hc2 := hc; simp only [Bool.and_eq_true, Bool.or_eq_true, Bool.or_eq_false_iff, Bool.and_eq_false_iff, Bool.not_eq_true', Bool.not_eq_false', decide_eq_true_eq, decide_eq_false_iff_not, beq_iff_eq, bne_iff_ne, List.length_map, List.length_take] at hc2; omega))) ?_
              refine sq_plain rfl rfl rfl (w_move rfl (ev_tmp rfl)) ?_
              refine sq_nil ?_
              refine round_end i (i + 1) ?_ ?_ (le_drop 1 ⟨congrArg (fun z => some (AV.str z)) (by first | (exfalso; omega) | (rw [ops_next hx]; (first | rw [if_pos (show 0 < i by omega)] | rw [if_neg (show ¬ 0 < i by omega)]); simp [opB, opVal, opHd, hasValK, hasByK, *]; done)), rfl, rfl, rfl, rfl, trivial⟩)
              · exact ⟨by omega, opsB_take hg (i + 1)⟩
              · omega
          · intro h38
            have k38 := ne_of_beqf h38; try simp only [List.length_map] at k38
            refine awp_region ?_
            refine sq_plain rfl rfl rfl (w_eql rfl (ev_tmp rfl) ev_ci) ?_
            refine sq_plain rfl rfl rfl (w_assign rfl (ev_tmp rfl)) ?_
            refine sq_nil ?_
            refine awp_cond (ev_tmp rfl) ?_ ?_
            · intro h38
              have k38 := eq_of_beqt h38; try simp only [List.length_map] at k38
              refine awp_region ?_
              refine sq_plain rfl rfl rfl (w_move rfl (ev_tmp rfl)) ?_
              refine sq_plain rfl rfl rfl (w_fldBn 3 rfl Tryz.underlying55 rfl Tryz.sizeOf3 (ev_tmp rfl) rfl) ?_
              refine sq_plain rfl rfl rfl (w_loadB1 0 rfl (ev_tmp rfl) rfl Tryz.isAgg3 rfl) ?_
              refine sq_plain rfl rfl rfl (w_call rfl Tryz.call100 rfl (l5Text_spec _ (by omega)) (evl_cons (ev_tmp rfl) evl_nil)) ?_
              refine sq_plain rfl rfl rfl (w_cat rfl (ev_cs' (l := [32]) rfl) (ev_tmp rfl) (by first | omega | (simp only [List.length_append, List.length_take, List.length_drop, List.length_cons, List.length_nil]; omega))) ?_
              refine sq_plain rfl rfl rfl (w_cat rfl (ev_tmp rfl) (ev_tmp rfl) (by first | omega | (simp only [List.length_append, List.length_take, List.length_drop, List.length_cons, List.length_nil]; omega))) ?_
              refine sq_plain rfl rfl rfl (w_assign rfl (ev_tmp rfl)) ?_
              refine sq_nil ?_
              refine awp_region ?_
              refine sq_plain rfl rfl rfl (w_addi rfl (ev_tmp rfl) ev_ci (by first | omega | ((try simp only [List.length_map, List.length_take, List.length_cons, List.length_nil, chunks_len, szR] at *); omega) | (have hc2 := hc; simp only [Bool.and_eq_true, Bool.or_eq_true, Bool.or_eq_false_iff, Bool.and_eq_false_iff, Bool.not_eq_true', Bool.not_eq_false', decide_eq_true_eq, decide_eq_false_iff_not, beq_iff_eq, bne_iff_ne, List.length_map, List.length_take] at hc2; omega))) ?_
              refine sq_plain rfl rfl rfl (w_move rfl (ev_tmp rfl)) ?_
              refine sq_nil ?_
              refine round_end i (i + 1) ?_ ?_ (le_drop 1 ⟨congrArg (fun z => some (AV.str z)) (by first | (exfalso; omega) | (rw [ops_next hx]; (first | rw [if_pos (show 0 < i by omega)] | rw [if_neg (show ¬ 0 < i by omega)]); simp [opB, opVal, opHd, hasValK, hasByK, *]; done)), rfl, rfl, rfl, rfl, trivial⟩)
              · exact ⟨by omega, opsB_take hg (i + 1)⟩
              · omega
            · intro h38
              have k38 := ne_of_beqf h38; try simp only [List.length_map] at k38
              refine awp_skip ?_
              refine awp_region ?_
              refine sq_plain rfl rfl rfl (w_addi rfl (ev_tmp rfl) ev_ci (by first | omega | ((try simp only [List.length_map, List.length_take, List.length_cons, List.length_nil, chunks_len, szR] at *); omega) | (have hc2 := hc; simp only [Bool.and_eq_true, Bool.or_eq_true, Bool.or_eq_false_iff, Bool.and_eq_false_iff, Bool.not_eq_true', Bool.not_eq_false', decide_eq_true_eq, decide_eq_false_iff_not, beq_iff_eq, bne_iff_ne, List.length_map, List.length_take] at hc2; omega))) ?_
              refine sq_plain rfl rfl rfl (w_move rfl (ev_tmp rfl)) ?_
              refine sq_nil ?_
              refine round_end i (i + 1) ?_ ?_ (le_drop 1 ⟨congrArg (fun z => some (AV.str z)) (by first | (exfalso; omega) | (rw [ops_next hx]; (first | rw [if_pos (show 0 < i by omega)] | rw [if_neg (show ¬ 0 < i by omega)]); simp [opB, opVal, opHd, hasValK, hasByK, *]; done)), rfl, rfl, rfl, rfl, trivial⟩)
              · exact ⟨by omega, opsB_take hg (i + 1)⟩
              · omega
      · intro h30
        have k30 := ne_of_beqf h30; try simp only [List.length_map] at k30
        refine awp_region ?_
        refine sq_plain rfl rfl rfl (w_eql rfl (ev_tmp rfl) ev_ci) ?_
        refine sq_plain rfl rfl rfl (w_assign rfl (ev_tmp rfl)) ?_
        refine sq_nil ?_
        refine awp_cond (ev_tmp rfl) ?_ ?_
        · intro h30
          have k30 := eq_of_beqt h30; try simp only [List.length_map] at k30
          refine awp_region ?_
          refine sq_plain rfl rfl rfl (w_move rfl (ev_tmp rfl)) ?_
          refine sq_plain rfl rfl rfl (w_fldBn 2 rfl Tryz.underlying55 rfl Tryz.sizeOf9 (ev_tmp rfl) rfl) ?_
          refine sq_plain rfl rfl rfl (w_loadB1 0 rfl (ev_tmp rfl) rfl Tryz.isAgg9 rfl) ?_
          refine sq_plain rfl rfl rfl (w_cat rfl (ev_cs' (l := [32]) rfl) (ev_tmp rfl) (by first | omega | (simp only [List.length_append, List.length_take, List.length_drop, List.length_cons, List.length_nil]; omega))) ?_
          refine sq_plain rfl rfl rfl (w_cat rfl (ev_tmp rfl) (ev_tmp rfl) (by first | omega | (simp only [List.length_append, List.length_take, List.length_drop, List.length_cons, List.length_nil]; omega))) ?_
          refine sq_plain rfl rfl rfl (w_assign rfl (ev_tmp rfl)) ?_
          refine sq_nil ?_
          refine awp_region ?_
          refine sq_plain rfl rfl rfl (w_addi rfl (ev_tmp rfl) ev_ci (by first | omega | ((try simp only [List.length_map, List.length_take, List.length_cons, List.length_nil, chunks_len, szR] at *); omega) | (have hc2 := hc; simp only [Bool.and_eq_true, Bool.or_eq_true, Bool.or_eq_false_iff, Bool.and_eq_false_iff, Bool.not_eq_true', Bool.not_eq_false', decide_eq_true_eq, decide_eq_false_iff_not, beq_iff_eq, bne_iff_ne, List.length_map, List.length_take] at hc2; omega))) ?_
          refine sq_plain rfl rfl rfl (w_move rfl (ev_tmp rfl)) ?_
          refine sq_nil ?_
          refine round_end i (i + 1) ?_ ?_ (le_drop 1 ⟨congrArg (fun z => some (AV.str z)) (by first | (exfalso; omega) | (rw [ops_next hx]; (first | rw [if_pos (show 0 < i by omega)] | rw [if_neg (show ¬ 0 < i by omega)]); simp [opB, opVal, opHd, hasValK, hasByK, *]; done)), rfl, rfl, rfl, rfl, trivial⟩)
          · exact ⟨by omega, opsB_take hg (i + 1)⟩
          · omega
        · intro h30
          have k30 := ne_of_beqf h30; try simp only [List.length_map] at k30
          refine awp_seq ?_
          refine awp_seq ?_
          refine awp_region ?_
          refine sq_plain rfl rfl rfl (w_eql rfl (ev_tmp rfl) ev_ci) ?_
          refine sq_plain rfl rfl rfl (w_assign rfl (ev_tmp rfl)) ?_
          refine sq_nil ?_
          refine awp_cond (ev_tmp rfl) ?_ ?_
          · intro h38
            have k38 := eq_of_beqt h38; try simp only [List.length_map] at k38
            refine awp_skip ?_
            refine awp_cond (ev_tmp rfl) ?_ ?_
            · intro h38
              have k38 := eq_of_beqt h38; try simp only [List.length_map] at k38
              refine awp_region ?_
              refine sq_plain rfl rfl rfl (w_move rfl (ev_tmp rfl)) ?_
              refine sq_plain rfl rfl rfl (w_fldBn 3 rfl Tryz.underlying55 rfl Tryz.sizeOf3 (ev_tmp rfl) rfl) ?_
              refine sq_plain rfl rfl rfl (w_loadB1 0 rfl (ev_tmp rfl) rfl Tryz.isAgg3 rfl) ?_
              refine sq_plain rfl rfl rfl (w_call rfl Tryz.call100 rfl (l5Text_spec _ (by omega)) (evl_cons (ev_tmp rfl) evl_nil)) ?_
              refine sq_plain rfl rfl rfl (w_cat rfl (ev_cs' (l := [32]) rfl) (ev_tmp rfl) (by first | omega | (simp only [List.length_append, List.length_take, List.length_drop, List.length_cons, List.length_nil]; omega))) ?_
              refine sq_plain rfl rfl rfl (w_cat rfl (ev_tmp rfl) (ev_tmp rfl) (by first | omega | (simp only [List.length_append, List.length_take, List.length_drop, List.length_cons, List.length_nil]; omega))) ?_
              refine sq_plain rfl rfl rfl (w_assign rfl (ev_tmp rfl)) ?_
              refine sq_nil ?_
              refine awp_region ?_
              refine sq_plain rfl rfl rfl (w_addi rfl (ev_tmp rfl) ev_ci (by first | omega | ((try simp only [List.length_map, List.length_take, List.length_cons, List.length_nil, chunks_len, szR] at *); omega) | (have hc2 := hc; simp only [Bool.and_eq_true, Bool.or_eq_true, Bool.or_eq_false_iff, Bool.and_eq_false_iff, Bool.not_eq_true', Bool.not_eq_false', decide_eq_true_eq, decide_eq_false_iff_not, beq_iff_eq, bne_iff_ne, List.length_map, List.length_take] at hc2; omega))) ?_
              refine sq_plain rfl rfl rfl (w_move rfl (ev_tmp rfl)) ?_
              refine sq_nil ?_
              refine round_end i (i + 1) ?_ ?_ (le_drop 1 ⟨congrArg (fun z => some (AV.str z)) (by first | (exfalso; omega) | (rw [ops_next hx]; (first | rw [if_pos (show 0 < i by omega)] | rw [if_neg (show ¬ 0 < i by omega)]); simp [opB, opVal, opHd, hasValK, hasByK, *]; done)), rfl, rfl, rfl, rfl, trivial⟩)
              · exact ⟨by omega, opsB_take hg (i + 1)⟩
              · omega
            · intro h38
              have k38 := ne_of_beqf h38; try simp only [List.length_map] at k38
              refine awp_skip ?_
              refine awp_region ?_
              refine sq_plain rfl rfl rfl (w_addi rfl (ev_tmp rfl) ev_ci (by first | omega | ((try simp only [List.length_map, List.length_take, List.length_cons, List.length_nil, chunks_len, szR] at *); omega) | (have hc2 := hc; simp only [Bool.and_eq_true, Bool.or_eq_true, Bool.or_eq_false_iff, Bool.and_eq_false_iff, Bool.not_eq_true', Bool.not_eq_false', decide_eq_true_eq, decide_eq_false_iff_not, beq_iff_eq, bne_iff_ne, List.length_map, List.length_take] at hc2; omega))) ?_
              refine sq_plain rfl rfl rfl (w_move rfl (ev_tmp rfl)) ?_
              refine sq_nil ?_
              refine round_end i (i + 1) ?_ ?_ (le_drop 1 ⟨congrArg (fun z => some (AV.str z)) (by first | (exfalso; omega) | (rw [ops_next hx]; (first | rw [if_pos (show 0 < i by omega)] | rw [if_neg (show ¬ 0 < i by omega)]); simp [opB, opVal, opHd, hasValK, hasByK, *]; done)), rfl, rfl, rfl, rfl, trivial⟩)
              · exact ⟨by omega, opsB_take hg (i + 1)⟩
              · omega
          · intro h38
            have k38 := ne_of_beqf h38; try simp only [List.length_map] at k38
            refine awp_region ?_
            refine sq_plain rfl rfl rfl (w_eql rfl (ev_tmp rfl) ev_ci) ?_
            refine sq_plain rfl rfl rfl (w_assign rfl (ev_tmp rfl)) ?_
            refine sq_nil ?_
            refine awp_cond (ev_tmp rfl) ?_ ?_
            · intro h38
              have k38 := eq_of_beqt h38; try simp only [List.length_map] at k38
              refine awp_region ?_
              refine sq_plain rfl rfl rfl (w_move rfl (ev_tmp rfl)) ?_
              refine sq_plain rfl rfl rfl (w_fldBn 3 rfl Tryz.underlying55 rfl Tryz.sizeOf3 (ev_tmp rfl) rfl) ?_
              refine sq_plain rfl rfl rfl (w_loadB1 0 rfl (ev_tmp rfl) rfl Tryz.isAgg3 rfl) ?_
              refine sq_plain rfl rfl rfl (w_call rfl Tryz.call100 rfl (l5Text_spec _ (by omega)) (evl_cons (ev_tmp rfl) evl_nil)) ?_
              refine sq_plain rfl rfl rfl (w_cat rfl (ev_cs' (l := [32]) rfl) (ev_tmp rfl) (by first | omega | (simp only [List.length_append, List.length_take, List.length_drop, List.length_cons, List.length_nil]; omega))) ?_
              refine sq_plain rfl rfl rfl (w_cat rfl (ev_tmp rfl) (ev_tmp rfl) (by first | omega | (simp only [List.length_append, List.length_take, List.length_drop, List.length_cons, List.length_nil]; omega))) ?_
              refine sq_plain rfl rfl rfl (w_assign rfl (ev_tmp rfl)) ?_
              refine sq_nil ?_
              refine awp_region ?_
              refine sq_plain rfl rfl rfl (w_addi rfl (ev_tmp rfl) ev_ci (by first | omega | ((try simp only [List.length_map, List.length_take, List.length_cons, List.length_nil, chunks_len, szR] at *); omega) | (have hc2 := hc; simp only [Bool.and_eq_true, Bool.or_eq_true, Bool.or_eq_false_iff, Bool.and_eq_false_iff, Bool.not_eq_true', Bool.not_eq_false', decide_eq_true_eq, decide_eq_false_iff_not, beq_iff_eq, bne_iff_ne, List.length_map, List.length_take] at hc2; omega))) ?_
              refine sq_plain rfl rfl rfl (w_move rfl (ev_tmp rfl)) ?_
              refine sq_nil ?_
              refine round_end i (i + 1) ?_ ?_ (le_drop 1 ⟨congrArg (fun z => some (AV.str z)) (by first | (exfalso; omega) | (rw [ops_next hx]; (first | rw [if_pos (show 0 < i by omega)] | rw [if_neg (show ¬ 0 < i by omega)]); simp [opB, opVal, opHd, hasValK, hasByK, *]; done)), rfl, rfl, rfl, rfl, trivial⟩)
              · exact ⟨by omega, opsB_take hg (i + 1)⟩
              · omega
            · intro h38
              have k38 := ne_of_beqf h38; try simp only [List.length_map] at k38
              refine awp_skip ?_
              refine awp_region ?_
              refine sq_plain rfl rfl rfl (w_addi rfl (ev_tmp rfl) ev_ci (by first | omega | ((try simp only [List.length_map, List.length_take, List.length_cons, List.length_nil, chunks_len, szR] at *); omega) | (have hc2 := hc; simp only [Bool.and_eq_true, Bool.or_eq_true, Bool.or_eq_false_iff, Bool.and_eq_false_iff, Bool.not_eq_true', Bool.not_eq_false', decide_eq_true_eq, decide_eq_false_iff_not, beq_iff_eq, bne_iff_ne, List.length_map, List.length_take] at hc2; omega))) ?_
              refine sq_plain rfl rfl rfl (w_move rfl (ev_tmp rfl)) ?_
              refine sq_nil ?_
              refine round_end i (i + 1) ?_ ?_ (le_drop 1 ⟨congrArg (fun z => some (AV.str z)) (by first | (exfalso; omega) | (rw [ops_next hx]; (first | rw [if_pos (show 0 < i by omega)] | rw [if_neg (show ¬ 0 < i by omega)]); simp [opB, opVal, opHd, hasValK, hasByK, *]; done)), rfl, rfl, rfl, rfl, trivial⟩)
              · exact ⟨by omega, opsB_take hg (i + 1)⟩
              · omega
  · intro h9
    have k9 := of_decide_eq_false h9; try simp only [List.length_map] at k9
    have hge : i = l.length := by omega
    rw [hge, List.take_length]
    refine awp_exit ?_
    refine awp_seq ?_
    refine awp_region ?_
    refine sq_plain rfl rfl rfl (w_move rfl (ev_tmp rfl)) ?_
    refine sq_plain rfl rfl rfl (w_assign rfl (ev_tmp rfl)) ?_
    refine sq_nil ?_
    refine awp_ret ?_
    exact retR rfl (rv_tmp' rfl (by rfl))
theorem opsTextS_spec (l : List TOp) (hs : sizeL TOp.size l ≤ 1048576) : FSpec Tryz.prog 8 [AV.list 4 (l.map TOp.cs)] (AV.tup [AV.str (opsTextR l).1, AV.bool (opsTextR l).2]) := by
  refine spec_of_awp Tryz.func8 rfl Tryz.ntmps8 rfl ?_
  refine awp_seq ?_
  refine awp_region ?_
  refine sq_plain rfl rfl rfl (w_assign rfl (ev_cs' (l := []) rfl)) ?_
  refine sq_plain rfl rfl rfl (w_assign rfl ev_cb) ?_
  refine sq_nil ?_
  refine awp_seq ?_
  refine awp_seq ?_
  refine awp_region ?_
  refine sq_plain rfl rfl rfl (w_move rfl (ev_tmp rfl)) ?_
  refine sq_plain rfl rfl rfl (w_call rfl Tryz.call39 rfl (l5Good_spec _ (by first | assumption | omega)) (evl_cons (ev_tmp rfl) evl_nil)) ?_
  refine sq_plain rfl rfl rfl (w_not rfl (ev_tmp rfl)) ?_
  refine sq_nil ?_
  refine awp_cond (ev_tmp rfl) ?_ ?_
  · intro h6
    have he : opsTextR l = ([], false) := if_neg (by rw [goodOps_eq]; simpa using h6)
    rw [he]
    refine awp_seq ?_
    refine awp_region ?_
    refine sq_plain rfl rfl rfl (w_assign rfl (ev_cs' (l := []) rfl)) ?_
    refine sq_plain rfl rfl rfl (w_assign rfl ev_cb) ?_
    refine sq_nil ?_
    refine awp_ret ?_
    exact retN rfl (by decide) (rv_cons (rv_tmp' rfl (by rfl)) (rv_cons (rv_tmp' rfl (by rfl)) rv_nil))
  · intro h6
    have hg : goodOps l = true := by (rw [goodOps_eq]; simpa using h6)
    have he : opsTextR l = (opsB l, true) := if_pos hg
    rw [he]
    refine awp_skip ?_
    refine awp_seq ?_
    refine awp_region ?_
    refine sq_plain rfl rfl rfl (w_move rfl (ev_tmp rfl)) ?_
    refine sq_plain rfl rfl rfl (w_call rfl Tryz.call40 rfl (l5OpsText_spec _ (by first | assumption | omega)) (evl_cons (ev_tmp rfl) evl_nil)) ?_
    refine sq_plain rfl rfl rfl (w_assign rfl (ev_tmp rfl)) ?_
    refine sq_plain rfl rfl rfl (w_assign rfl ev_cb) ?_
    refine sq_nil ?_
    refine awp_ret ?_
    exact retN rfl (by decide) (rv_cons (rv_tmp' rfl (by rfl)) (rv_cons (rv_tmp' rfl (by rfl)) rv_nil))
end Go.Proofs.YtmlmmgeadombbaaGreatDoor

set_option linter.unusedVariables false
set_option linter.unusedSimpArgs false
set_option maxRecDepth 100000
set_option maxHeartbeats 1000000
namespace Go.AV
theorem pieces2_own {P : Program} {f : FuncId} {T : World → Prop} {s : List UInt8} {p : List UInt8} {t : TypeId} {L : List (List UInt8)} {ps : List ByteArray} (hL : ps.map (·.data.toList) = L) (hlen : ps.length ≤ maxLen)
    (h : ∀ w : World, T w → Calls P f #[.string ⟨s.toArray⟩, .string ⟨p.toArray⟩] w fun e w' => e = .returned (.slice (some ⟨w.heap.size, 0, none⟩) ps.length ps.length) ∧ w' = w.alloc (.cells (ps.map Value.string).toArray t)) :
    GSpec P f [AV.wt T (AV.str s), AV.str p] [] (fun _ : Value => True) (fun v => [.arr v t 1 (L.map fun x => [AV.str x])]) (fun v => AV.is v) := fun R w vs hr hd _ _ => by
  match vs, hd.1 with
  | [u, v], _ =>
    have h1 := hd.2 0 u _ rfl rfl
    have h2 := hd.2 1 v _ rfl rfl
    rw [show u = Value.string ⟨s.toArray⟩ from h1.1, show v = Value.string ⟨p.toArray⟩ from h2]
    refine (h w (h1.2 w hr)).mono fun e w' ⟨e1, e2⟩ => ?_
    subst e1; subst e2; subst hL
    refine ⟨_, _, R, trivial, rfl, rfl, ?_⟩
    exact core_arr_new (core_start hr) (by simp) (Nat.le_refl _) hlen (by simp) (fun x hx => by
      obtain ⟨b, _, rfl⟩ := List.mem_map.1 hx; rfl) (by
      have h9 := denC_strs (R := R) ps
      have e9 : ((ps.map Value.string).toArray.toList.take (ps.length * 1)) = ps.map Value.string := by rw [Nat.mul_one]; exact List.take_of_length_le (by simp)
      rw [e9]; exact h9)
end Go.AV
namespace Go.Proofs.YtmlmmgeadombbaaGreatDoor
open Go Go.AV Go.M
attribute [local irreducible] OpW OpA OpS AWP FSpec ESpec GSpec OpE RetOk RetOkG RvDen Le Ev GuardIs SrcIs Int.tmod Int.tdiv IntKind.wrap
theorem split2_spec (s : Str) (hs : s.length ≤ 1048576) : FSpec Tryz.prog 41 [AV.wt readW (AV.str s), AV.str [59, 32]] (strs (cutW s)) := by
  have hsz : (ByteArray.mk s.toArray).size = s.length := size_mk s
  have h2 : 1 ≤ (⟨#[59, 32]⟩ : ByteArray).size := by decide
  have hle := Lib.countB_le ⟨#[59, 32]⟩ h2 _ ⟨s.toArray⟩ (Nat.le_refl _)
  have hlen := Lib.splitB_all ⟨#[59, 32]⟩ h2 0 _ ⟨s.toArray⟩ rfl
  refine fspec_of_gspec (pieces2_own (T := readW) (t := 9) (s := s) (p := [59, 32]) (ps := Lib.splitB ⟨#[59, 32]⟩ 0 (Lib.countB ⟨s.toArray⟩ ⟨#[59, 32]⟩) ⟨s.toArray⟩) ?_ ?_ fun w hT => ?_) fun v _ => lt_arr (List.mem_singleton.2 rfl) le_refl_e
  · rw [Lib.splitB_data]; rfl
  · rw [hlen]; unfold maxLen; omega
  · obtain ⟨_, ⟨m, hm⟩, _⟩ := hT
    refine (Any.strings_Split Tryz.split (by kernel_rfl) ⟨s.toArray⟩ ⟨#[59, 32]⟩ m w (by rw [hsz]; omega) hm h2).mono fun e w' ⟨e1, e2⟩ => ?_
    rw [hlen]
    exact ⟨e1, e2⟩
theorem cutW_count (s : Str) : (cutW s).length ≤ s.length + 1 := by
  have hsz : (ByteArray.mk s.toArray).size = s.length := size_mk s
  have h2 : 1 ≤ (⟨#[59, 32]⟩ : ByteArray).size := by decide
  have hle := Lib.countB_le ⟨#[59, 32]⟩ h2 _ ⟨s.toArray⟩ (Nat.le_refl _)
  have hlen := Lib.splitB_all ⟨#[59, 32]⟩ h2 0 _ ⟨s.toArray⟩ rfl
  have e : (Lib.splitB ⟨#[59, 32]⟩ 0 (Lib.countB ⟨s.toArray⟩ ⟨#[59, 32]⟩) ⟨s.toArray⟩).map (·.data.toList) = cutW s := by rw [Lib.splitB_data]; rfl
  rw [← e, List.length_map, hlen]
  omega
theorem numberIn_spec (s : Str) (hs : s.length ≤ 1048576) : FSpec Tryz.prog 14 [AV.wt readW (AV.str s)] (AV.tup [AV.int (readI s (-999999) 999999).1, AV.bool (readI s (-999999) 999999).2]) := by
  refine spec_of_awp Tryz.func14 rfl Tryz.ntmps14 rfl ?_
  refine AWP.le (le_tab (t := 0) rfl) ?_
  refine awp_seq ?_
  refine awp_region ?_
  refine sq_plain rfl rfl rfl (w_assign rfl ev_ci) ?_
  refine sq_plain rfl rfl rfl (w_assign rfl ev_cb) ?_
  refine sq_nil ?_
  refine awp_seq ?_
  refine awp_region ?_
  refine sq_plain rfl rfl rfl (w_move rfl (ev_tmp rfl)) ?_
  refine sq_plain rfl rfl rfl (w_callT 0 rfl rfl Tryz.call46 rfl (readInt_spec _ _ _ (by first | assumption | omega)) (evl_cons (ev_tmp rfl) (evl_cons ev_ci (evl_cons ev_ci evl_nil))) (by first | exact fun _ h => h | exact fun _ h => h.1)) ?_
  refine sq_plain rfl rfl rfl (w_extract rfl (ev_tmp rfl) rfl) ?_
  refine sq_plain rfl rfl rfl (w_extract rfl (ev_tmp rfl) rfl) ?_
  refine sq_plain rfl rfl rfl (w_assign rfl (ev_tmp rfl)) ?_
  refine sq_plain rfl rfl rfl (w_assign rfl (ev_tmp rfl)) ?_
  refine sq_nil ?_
  refine awp_ret ?_
  exact retN rfl (by decide) (rv_cons (rv_tmp' rfl (by rfl)) (rv_cons (rv_tmp' rfl (by rfl)) rv_nil))
theorem l1R_low (s : Str) : -1 ≤ l1R s := by
  have h : ∀ (s : Str) (n : Nat), -1 ≤ rdFrom n s := by
    intro s
    induction s with
    | nil => intro n; unfold rdFrom; omega
    | cons b s ih => intro n; unfold rdFrom; split; exact ih _; omega
  unfold l1R; split
  · omega
  · exact h s 0
theorem rd_up : ∀ (s : Str) (n k : Nat), n + 1 ≤ 10 ^ k → rdFrom n s + 1 ≤ 10 ^ (k + s.length)
  | [], n, k, h => by
    have : ((n + 1 : Nat) : Int) ≤ ((10 ^ k : Nat) : Int) := Int.ofNat_le.2 h
    simp only [rdFrom, List.length_nil, Nat.add_zero]
    push_cast at this ⊢; exact this
  | b :: s, n, k, h => by
    unfold rdFrom
    split
    · rename_i hd
      have h2 : b.toNat - 48 ≤ 9 := by unfold isDig at hd; simp at hd; omega
      have := rd_up s (10 * n + (b.toNat - 48)) (k + 1) (by rw [Nat.pow_succ]; omega)
      rw [List.length_cons, show k + (s.length + 1) = k + 1 + s.length by omega]; exact this
    · have : (0 : Int) ≤ 10 ^ (k + (b :: s).length) := Int.pow_nonneg (by decide)
      omega
theorem l1R_up (s : Str) : l1R s ≤ 999999 := by
  unfold l1R; split
  · omega
  · rename_i h
    have hl : s.length ≤ 6 := by
      unfold l1BadB within at h
      simp only [Bool.or_eq_true, not_or] at h
      have := h.1; simp at this; omega
    have h1 := rd_up s 0 0 (by decide)
    have h2 : (10 : Int) ^ (0 + s.length) ≤ 10 ^ 6 := by
      have := Nat.pow_le_pow_right (n := 10) (by decide) (show 0 + s.length ≤ 6 by omega)
      exact_mod_cast this
    have h3 : (10 : Int) ^ 6 = 1000000 := by decide
    omega
theorem l5Num_spec (s : Str) (hs : s.length ≤ 1048576) : FSpec Tryz.prog 53 [AV.str s] (AV.tup [AV.int (l5N s).1, AV.bool (l5N s).2]) := by
  have hlo1 := l1R_low s
  have hlo2 := l1R_low (s.drop 1)
  have hup1 := l1R_up s
  have hup2 := l1R_up (s.drop 1)
  have hd1 : (s.drop 1).length ≤ 1048576 := by rw [List.length_drop]; omega
  obtain ⟨b0, hb0⟩ := get_any s 0
  have hneg : (decide ((0 : Int) < (s.length : Int)) && ((b0.toNat : Int) == 45)) = decide (s.head? = some 45) := by
    cases s with
    | nil => rfl
    | cons c r =>
      have e := hb0 (by simp)
      simp at e; subst e
      rw [Bool.eq_iff_iff]
      simp only [List.length_cons, Bool.and_eq_true, decide_eq_true_eq, beq_iff_eq, List.head?_cons, Option.some.injEq]
      constructor
      · intro h; exact UInt8.toNat_inj.1 (by have := h.2; simp; omega)
      · intro h; subst h; exact ⟨by omega, rfl⟩
  refine spec_of_awp Tryz.func53 rfl Tryz.ntmps53 rfl ?_
  refine awp_seq ?_
  refine awp_region ?_
  refine sq_plain rfl rfl rfl (w_assign rfl ev_ci) ?_
  refine sq_plain rfl rfl rfl (w_assign rfl ev_cb) ?_
  refine sq_nil ?_
  refine awp_seq ?_
  refine awp_region ?_
  refine sq_plain rfl rfl rfl (w_move rfl (ev_tmp rfl)) ?_
  refine sq_plain rfl rfl rfl (w_slen rfl Tryz.underlying9 (ev_tmp rfl)) ?_
  refine sq_plain rfl rfl rfl (w_gtr rfl (ev_tmp rfl) ev_ci) ?_
  refine sq_plain rfl rfl rfl (w_move rfl (ev_tmp rfl)) ?_
  refine sq_grd rfl rfl (guard_t rfl rfl rfl) (fun hc => w_move rfl (ev_tmp rfl)) ?_
  refine sq_grd rfl rfl (guard_t rfl rfl rfl) (fun hc => w_sidx rfl Tryz.underlying9 (ev_whn rfl hc) ev_ci (by omega) (hb0 (by have := of_decide_eq_true hc; omega))) ?_
  refine sq_grd rfl rfl (guard_t rfl rfl rfl) (fun hc => w_eql rfl (ev_whn rfl hc) ev_ci) ?_
  refine sq_plain rfl rfl rfl (w_and rfl (ev_tmp rfl) (evif_w rfl)) ?_
  refine sq_plain rfl rfl rfl (w_assign rfl (ev_tmp rfl)) ?_
  refine sq_nil ?_
  refine awp_seq ?_
  rw [hneg]
  refine awp_region ?_
  refine sq_plain rfl rfl rfl (w_move rfl (ev_tmp rfl)) ?_
  refine sq_plain rfl rfl rfl (w_assign rfl (ev_tmp rfl)) ?_
  refine sq_nil ?_
  refine awp_seq ?_
  refine awp_seq ?_
  refine awp_region ?_
  refine sq_plain rfl rfl rfl (w_move rfl (ev_tmp rfl)) ?_
  refine sq_nil ?_
  refine awp_cond (ev_tmp rfl) ?_ ?_
  · intro h16
    have hh : s.head? = some 45 := of_decide_eq_true h16
    have hbody : (if s.head? = some 45 then s.drop 1 else s) = s.drop 1 := if_pos hh
    have hl1 : 1 ≤ s.length := by (cases s with | nil => cases hh | cons c r => simp)
    refine awp_region ?_
    refine sq_plain rfl rfl rfl (w_move rfl (ev_tmp rfl)) ?_
    refine sq_plain rfl rfl rfl (w_ssl_lo rfl Tryz.underlying9 (ev_tmp rfl) ev_ci (by first | omega | ((try simp only [List.length_map, List.length_take, List.length_cons, List.length_nil, chunks_len, szR] at *); omega) | (have hc2 := hc; simp only [Bool.and_eq_true, Bool.or_eq_true, Bool.or_eq_false_iff, Bool.and_eq_false_iff, Bool.not_eq_true', Bool.not_eq_false', decide_eq_true_eq, decide_eq_false_iff_not, beq_iff_eq, bne_iff_ne, List.length_map, List.length_take] at hc2; omega)) (by first | omega | ((try simp only [List.length_map, List.length_take, List.length_cons, List.length_nil, chunks_len, szR] at *); omega) | (have hc2 := hc; simp only [Bool.and_eq_true, Bool.or_eq_true, Bool.or_eq_false_iff, Bool.and_eq_false_iff, Bool.not_eq_true', Bool.not_eq_false', decide_eq_true_eq, decide_eq_false_iff_not, beq_iff_eq, bne_iff_ne, List.length_map, List.length_take] at hc2; omega))) ?_
    refine sq_plain rfl rfl rfl (w_assign rfl (ev_tmp rfl)) ?_
    refine sq_nil ?_
    refine awp_seq ?_
    refine awp_region ?_
    refine sq_plain rfl rfl rfl (w_move rfl (ev_tmp rfl)) ?_
    refine sq_plain rfl rfl rfl (w_call rfl Tryz.call86 rfl (l1Read_spec _ (by first | exact hs | exact hd1)) (evl_cons (ev_tmp rfl) evl_nil)) ?_
    refine sq_plain rfl rfl rfl (w_assign rfl (ev_tmp rfl)) ?_
    refine sq_nil ?_
    refine awp_seq ?_
    refine awp_seq ?_
    refine awp_region ?_
    refine sq_plain rfl rfl rfl (w_move rfl (ev_tmp rfl)) ?_
    refine sq_plain rfl rfl rfl (w_lss rfl (ev_tmp rfl) ev_ci) ?_
    refine sq_plain rfl rfl rfl (w_move rfl (ev_tmp rfl)) ?_
    refine sq_grd rfl rfl (guard_f rfl rfl rfl) (fun hc => w_move rfl (ev_tmp rfl)) ?_
    refine sq_grd rfl rfl (guard_f rfl rfl rfl) (fun hc => w_move rfl (ev_whn rfl hc)) ?_
    refine sq_grd rfl rfl (guard_wt rfl rfl rfl) (fun hc => w_move rfl (ev_tmp rfl)) ?_
    refine sq_grd rfl rfl (guard_wt rfl rfl rfl) (fun hc => w_eql rfl (ev_whn rfl hc) ev_ci) ?_
    refine sq_grd rfl rfl (guard_f rfl rfl rfl) (fun hc => w_and rfl (ev_whn rfl hc) (evif_w2 rfl hc)) ?_
    refine sq_plain rfl rfl rfl (w_or rfl (ev_tmp rfl) (evif_w rfl)) ?_
    refine sq_nil ?_
    refine awp_cond (ev_tmp rfl) ?_ ?_
    · intro h29
      have he : l5N s = (0, false) := by (unfold l5N; rw [hbody]; exact if_pos h29)
      rw [he]
      refine awp_seq ?_
      refine awp_region ?_
      refine sq_plain rfl rfl rfl (w_assign rfl ev_ci) ?_
      refine sq_plain rfl rfl rfl (w_assign rfl ev_cb) ?_
      refine sq_nil ?_
      refine awp_ret ?_
      exact retN rfl (by decide) (rv_cons (rv_tmp' rfl (by first | rfl | (rw [h16] at h30; cases h30; done) | exact congrArg AV.int ((in64 (by have e9 : l1R (List.drop (Int.toNat 1) s) = l1R (List.drop 1 s) := rfl; omega)).trans (Int.zero_sub _)))) (rv_cons (rv_tmp' rfl (by first | rfl | (rw [h16] at h30; cases h30; done) | exact congrArg AV.int ((in64 (by have e9 : l1R (List.drop (Int.toNat 1) s) = l1R (List.drop 1 s) := rfl; omega)).trans (Int.zero_sub _)))) rv_nil))
    · intro h29
      have he : l5N s = if s.head? = some 45 then (-(l1R (s.drop 1)), true) else (l1R s, true) := by (unfold l5N; rw [hbody]; exact if_neg (fun e => Bool.noConfusion (e.symm.trans h29)))
      rw [he]
      refine awp_skip ?_
      refine awp_seq ?_
      refine awp_seq ?_
      refine awp_region ?_
      refine sq_plain rfl rfl rfl (w_move rfl (ev_tmp rfl)) ?_
      refine sq_nil ?_
      refine awp_cond (ev_tmp rfl) ?_ ?_
      · intro h30
        rw [if_pos (of_decide_eq_true h30)]
        refine awp_seq ?_
        refine awp_region ?_
        refine sq_plain rfl rfl rfl (w_move rfl (ev_tmp rfl)) ?_
        refine sq_plain rfl rfl rfl (w_neg rfl (ev_tmp rfl)) ?_
        refine sq_plain rfl rfl rfl (w_assign rfl (ev_tmp rfl)) ?_
        refine sq_plain rfl rfl rfl (w_assign rfl ev_cb) ?_
        refine sq_nil ?_
        refine awp_ret ?_
        exact retN rfl (by decide) (rv_cons (rv_tmp' rfl (by first | rfl | (rw [h16] at h30; cases h30; done) | exact congrArg AV.int ((in64 (by have e9 : l1R (List.drop (Int.toNat 1) s) = l1R (List.drop 1 s) := rfl; omega)).trans (Int.zero_sub _)))) (rv_cons (rv_tmp' rfl (by first | rfl | (rw [h16] at h30; cases h30; done) | exact congrArg AV.int ((in64 (by have e9 : l1R (List.drop (Int.toNat 1) s) = l1R (List.drop 1 s) := rfl; omega)).trans (Int.zero_sub _)))) rv_nil))
      · intro h30
        rw [if_neg (of_decide_eq_false h30)]
        refine awp_skip ?_
        refine awp_seq ?_
        refine awp_region ?_
        refine sq_plain rfl rfl rfl (w_move rfl (ev_tmp rfl)) ?_
        refine sq_plain rfl rfl rfl (w_assign rfl (ev_tmp rfl)) ?_
        refine sq_plain rfl rfl rfl (w_assign rfl ev_cb) ?_
        refine sq_nil ?_
        refine awp_ret ?_
        exact retN rfl (by decide) (rv_cons (rv_tmp' rfl (by first | rfl | (rw [h16] at h30; cases h30; done) | exact congrArg AV.int ((in64 (by have e9 : l1R (List.drop (Int.toNat 1) s) = l1R (List.drop 1 s) := rfl; omega)).trans (Int.zero_sub _)))) (rv_cons (rv_tmp' rfl (by first | rfl | (rw [h16] at h30; cases h30; done) | exact congrArg AV.int ((in64 (by have e9 : l1R (List.drop (Int.toNat 1) s) = l1R (List.drop 1 s) := rfl; omega)).trans (Int.zero_sub _)))) rv_nil))
  · intro h16
    have hh : ¬ s.head? = some 45 := of_decide_eq_false h16
    have hbody : (if s.head? = some 45 then s.drop 1 else s) = s := if_neg hh
    refine awp_skip ?_
    refine awp_seq ?_
    refine awp_region ?_
    refine sq_plain rfl rfl rfl (w_move rfl (ev_tmp rfl)) ?_
    refine sq_plain rfl rfl rfl (w_call rfl Tryz.call86 rfl (l1Read_spec _ (by first | exact hs | exact hd1)) (evl_cons (ev_tmp rfl) evl_nil)) ?_
    refine sq_plain rfl rfl rfl (w_assign rfl (ev_tmp rfl)) ?_
    refine sq_nil ?_
    refine awp_seq ?_
    refine awp_seq ?_
    refine awp_region ?_
    refine sq_plain rfl rfl rfl (w_move rfl (ev_tmp rfl)) ?_
    refine sq_plain rfl rfl rfl (w_lss rfl (ev_tmp rfl) ev_ci) ?_
    refine sq_plain rfl rfl rfl (w_move rfl (ev_tmp rfl)) ?_
    refine sq_grd rfl rfl (guard_f rfl rfl rfl) (fun hc => w_move rfl (ev_tmp rfl)) ?_
    refine sq_grd rfl rfl (guard_f rfl rfl rfl) (fun hc => w_move rfl (ev_whn rfl hc)) ?_
    refine sq_grd rfl rfl (guard_wt rfl rfl rfl) (fun hc => w_move rfl (ev_tmp rfl)) ?_
    refine sq_grd rfl rfl (guard_wt rfl rfl rfl) (fun hc => w_eql rfl (ev_whn rfl hc) ev_ci) ?_
    refine sq_grd rfl rfl (guard_f rfl rfl rfl) (fun hc => w_and rfl (ev_whn rfl hc) (evif_w2 rfl hc)) ?_
    refine sq_plain rfl rfl rfl (w_or rfl (ev_tmp rfl) (evif_w rfl)) ?_
    refine sq_nil ?_
    refine awp_cond (ev_tmp rfl) ?_ ?_
    · intro h29
      have he : l5N s = (0, false) := by (unfold l5N; rw [hbody]; exact if_pos h29)
      rw [he]
      refine awp_seq ?_
      refine awp_region ?_
      refine sq_plain rfl rfl rfl (w_assign rfl ev_ci) ?_
      refine sq_plain rfl rfl rfl (w_assign rfl ev_cb) ?_
      refine sq_nil ?_
      refine awp_ret ?_
      exact retN rfl (by decide) (rv_cons (rv_tmp' rfl (by first | rfl | (rw [h16] at h30; cases h30; done) | exact congrArg AV.int ((in64 (by have e9 : l1R (List.drop (Int.toNat 1) s) = l1R (List.drop 1 s) := rfl; omega)).trans (Int.zero_sub _)))) (rv_cons (rv_tmp' rfl (by first | rfl | (rw [h16] at h30; cases h30; done) | exact congrArg AV.int ((in64 (by have e9 : l1R (List.drop (Int.toNat 1) s) = l1R (List.drop 1 s) := rfl; omega)).trans (Int.zero_sub _)))) rv_nil))
    · intro h29
      have he : l5N s = if s.head? = some 45 then (-(l1R (s.drop 1)), true) else (l1R s, true) := by (unfold l5N; rw [hbody]; exact if_neg (fun e => Bool.noConfusion (e.symm.trans h29)))
      rw [he]
      refine awp_skip ?_
      refine awp_seq ?_
      refine awp_seq ?_
      refine awp_region ?_
      refine sq_plain rfl rfl rfl (w_move rfl (ev_tmp rfl)) ?_
      refine sq_nil ?_
      refine awp_cond (ev_tmp rfl) ?_ ?_
      · intro h30
        rw [if_pos (of_decide_eq_true h30)]
        refine awp_seq ?_
        refine awp_region ?_
        refine sq_plain rfl rfl rfl (w_move rfl (ev_tmp rfl)) ?_
        refine sq_plain rfl rfl rfl (w_neg rfl (ev_tmp rfl)) ?_
        refine sq_plain rfl rfl rfl (w_assign rfl (ev_tmp rfl)) ?_
        refine sq_plain rfl rfl rfl (w_assign rfl ev_cb) ?_
        refine sq_nil ?_
        refine awp_ret ?_
        exact retN rfl (by decide) (rv_cons (rv_tmp' rfl (by first | rfl | (rw [h16] at h30; cases h30; done) | exact congrArg AV.int ((in64 (by have e9 : l1R (List.drop (Int.toNat 1) s) = l1R (List.drop 1 s) := rfl; omega)).trans (Int.zero_sub _)))) (rv_cons (rv_tmp' rfl (by first | rfl | (rw [h16] at h30; cases h30; done) | exact congrArg AV.int ((in64 (by have e9 : l1R (List.drop (Int.toNat 1) s) = l1R (List.drop 1 s) := rfl; omega)).trans (Int.zero_sub _)))) rv_nil))
      · intro h30
        rw [if_neg (of_decide_eq_false h30)]
        refine awp_skip ?_
        refine awp_seq ?_
        refine awp_region ?_
        refine sq_plain rfl rfl rfl (w_move rfl (ev_tmp rfl)) ?_
        refine sq_plain rfl rfl rfl (w_assign rfl (ev_tmp rfl)) ?_
        refine sq_plain rfl rfl rfl (w_assign rfl ev_cb) ?_
        refine sq_nil ?_
        refine awp_ret ?_
        exact retN rfl (by decide) (rv_cons (rv_tmp' rfl (by first | rfl | (rw [h16] at h30; cases h30; done) | exact congrArg AV.int ((in64 (by have e9 : l1R (List.drop (Int.toNat 1) s) = l1R (List.drop 1 s) := rfl; omega)).trans (Int.zero_sub _)))) (rv_cons (rv_tmp' rfl (by first | rfl | (rw [h16] at h30; cases h30; done) | exact congrArg AV.int ((in64 (by have e9 : l1R (List.drop (Int.toNat 1) s) = l1R (List.drop 1 s) := rfl; omega)).trans (Int.zero_sub _)))) rv_nil))
theorem numberInS_spec (s : Str) (hs : s.length ≤ 1048576) : FSpec Tryz.prog 15 [AV.str s] (AV.tup [AV.int (l5N s).1, AV.bool (l5N s).2]) := by
  refine spec_of_awp Tryz.func15 rfl Tryz.ntmps15 rfl ?_
  refine awp_seq ?_
  refine awp_region ?_
  refine sq_plain rfl rfl rfl (w_assign rfl ev_ci) ?_
  refine sq_plain rfl rfl rfl (w_assign rfl ev_cb) ?_
  refine sq_nil ?_
  refine awp_seq ?_
  refine awp_region ?_
  refine sq_plain rfl rfl rfl (w_move rfl (ev_tmp rfl)) ?_
  refine sq_plain rfl rfl rfl (w_call rfl Tryz.call53 rfl (l5Num_spec _ (by first | assumption | omega)) (evl_cons (ev_tmp rfl) evl_nil)) ?_
  refine sq_plain rfl rfl rfl (w_extract rfl (ev_tmp rfl) rfl) ?_
  refine sq_plain rfl rfl rfl (w_extract rfl (ev_tmp rfl) rfl) ?_
  refine sq_plain rfl rfl rfl (w_assign rfl (ev_tmp rfl)) ?_
  refine sq_plain rfl rfl rfl (w_assign rfl (ev_tmp rfl)) ?_
  refine sq_nil ?_
  refine awp_ret ?_
  exact retN rfl (by decide) (rv_cons (rv_tmp' rfl (by rfl)) (rv_cons (rv_tmp' rfl (by rfl)) rv_nil))
end Go.Proofs.YtmlmmgeadombbaaGreatDoor

set_option linter.unusedVariables false
set_option linter.unusedSimpArgs false
set_option maxRecDepth 100000
set_option maxHeartbeats 2000000
namespace Go.Proofs.YtmlmmgeadombbaaGreatDoor
open Go Go.AV Go.M
attribute [local irreducible] OpW OpA OpS AWP FSpec ESpec GSpec OpE RetOk RetOkG RvDen Le Ev GuardIs SrcIs Int.tmod Int.tdiv IntKind.wrap
theorem op_beq (x y : TOp) : (x.Kind == y.Kind && (x.Key == y.Key && (x.Val == y.Val && (x.By == y.By && true)))) = decide (x = y) := by
  cases x; cases y
  rw [Bool.eq_iff_iff]
  simp
theorem pSameOps_spec (a b : List TOp) : FSpec Tryz.prog 10 [AV.list 4 (a.map TOp.cs), AV.list 4 (b.map TOp.cs)] (AV.bool (decide (a = b))) := by
  refine spec_of_awp Tryz.func10 rfl Tryz.ntmps10 rfl ?_
  refine awp_len (t := 0) rfl fun hl => ?_
  try simp only [List.length_map] at hl
  refine awp_len (t := 1) rfl fun hl2 => ?_
  try simp only [List.length_map] at hl2
  refine awp_seq ?_
  refine awp_region ?_
  refine sq_plain rfl rfl rfl (w_assign rfl ev_cb) ?_
  refine sq_nil ?_
  refine awp_seq ?_
  refine awp_seq ?_
  refine awp_region ?_
  refine sq_plain rfl rfl rfl (w_move rfl (ev_tmp rfl)) ?_
  refine sq_plain rfl rfl rfl (w_llen rfl Tryz.underlying24 (ev_tmp rfl)) ?_
  refine sq_plain rfl rfl rfl (w_move rfl (ev_tmp rfl)) ?_
  refine sq_plain rfl rfl rfl (w_llen rfl Tryz.underlying24 (ev_tmp rfl)) ?_
  refine sq_plain rfl rfl rfl (w_neq rfl (ev_tmp rfl) (ev_tmp rfl)) ?_
  refine sq_nil ?_
  refine awp_cond (ev_tmp rfl) ?_ ?_
  · intro h10
    have k10 := ne_of_bne h10; try simp only [List.length_map] at k10
    have hne : decide (a = b) = false := decide_eq_false fun e => by (subst e; omega)
    rw [hne]
    refine awp_seq ?_
    refine awp_region ?_
    refine sq_plain rfl rfl rfl (w_assign rfl ev_cb) ?_
    refine sq_nil ?_
    refine awp_ret ?_
    exact retR rfl (rv_tmp' rfl (by rfl))
  · intro h10
    have k10 := eq_of_bne_false h10; try simp only [List.length_map] at k10
    refine awp_skip ?_
    refine awp_seq ?_
    refine awp_seq ?_
    refine awp_region ?_
    refine sq_plain rfl rfl rfl (w_move rfl (ev_tmp rfl)) ?_
    refine sq_plain rfl rfl rfl (w_llen rfl Tryz.underlying24 (ev_tmp rfl)) ?_
    refine sq_plain rfl rfl rfl (w_move rfl ev_ci) ?_
    refine sq_nil ?_
    refine awp_block ?_
    refine awp_loop_i [(0, _), (1, _), (12, _)] _ (fun (i : Nat) => i ≤ a.length ∧ a.take i = b.take i) (fun (i : Nat) => []) (fun (i : Nat) => [(13, AV.int i)]) (fun (i : Nat) => a.length - i) (0) ?_ (le_env ⟨rfl, rfl, rfl, rfl, trivial⟩) ?_
    · exact ⟨Nat.zero_le _, rfl⟩
    intro i hinv
    refine awp_seq ?_
    refine awp_region ?_
    refine sq_plain rfl rfl rfl (w_lss rfl (ev_tmp rfl) (ev_tmp rfl)) ?_
    refine sq_nil ?_
    refine awp_seq ?_
    refine awp_cond (ev_tmp rfl) ?_ ?_
    · intro h14
      have k14 := of_decide_eq_true h14; try simp only [List.length_map] at k14
      have hlt : i < a.length := by omega
      obtain ⟨x, hx⟩ := get_some hlt
      obtain ⟨y, hy⟩ := get_some (show i < b.length by omega)
      refine awp_skip ?_
      refine awp_seq ?_
      refine awp_block ?_
      refine awp_seq ?_
      refine awp_region ?_
      refine sq_plain rfl rfl rfl (w_move rfl (ev_tmp rfl)) ?_
      refine sq_plain rfl rfl rfl (w_assign rfl (ev_tmp rfl)) ?_
      refine sq_nil ?_
      refine awp_seq ?_
      refine awp_region_any (by kernel_rfl) (by kernel_rfl) rfl ?_
      refine ch_plain rfl rfl (w_move rfl (ev_tmp rfl)) ?_
      refine ch_plain rfl rfl (w_move rfl (ev_tmp rfl)) ?_
      refine ch_plain rfl rfl (w_idxm rfl Tryz.underlying24 Tryz.sizeOf55 (ev_tmp rfl) (ev_tmp rfl) hx (by first | omega | ((try simp only [List.length_map, List.length_take, List.length_cons, List.length_nil, chunks_len, szR] at *); omega) | (have hc2 := hc; simp only [Bool.and_eq_true, Bool.or_eq_true, Bool.or_eq_false_iff, Bool.and_eq_false_iff, Bool.not_eq_true', Bool.not_eq_false', decide_eq_true_eq, decide_eq_false_iff_not, beq_iff_eq, bne_iff_ne, List.length_map, List.length_take] at hc2; omega))) ?_
      refine ch_plain rfl rfl (w_loadE rfl (ev_tmp rfl) Tryz.isAgg55 Tryz.sizeOf55) ?_
      refine ch_plain rfl rfl (w_move rfl (ev_tmp rfl)) ?_
      refine ch_plain rfl rfl (w_move rfl (ev_tmp rfl)) ?_
      refine ch_plain rfl rfl (w_idxm rfl Tryz.underlying24 Tryz.sizeOf55 (ev_tmp rfl) (ev_tmp rfl) hy (by first | omega | ((try simp only [List.length_map, List.length_take, List.length_cons, List.length_nil, chunks_len, szR] at *); omega) | (have hc2 := hc; simp only [Bool.and_eq_true, Bool.or_eq_true, Bool.or_eq_false_iff, Bool.and_eq_false_iff, Bool.not_eq_true', Bool.not_eq_false', decide_eq_true_eq, decide_eq_false_iff_not, beq_iff_eq, bne_iff_ne, List.length_map, List.length_take] at hc2; omega))) ?_
      refine ch_plain rfl rfl (w_loadE rfl (ev_tmp rfl) Tryz.isAgg55 Tryz.sizeOf55) ?_
      refine ch_plain rfl rfl (w_aneq rfl Tryz.underlying55 (by kernel_rfl) (by kernel_rfl) (ev_tmp rfl) (ev_tmp rfl) (eqf_cons (by kernel_rfl) Tryz.isAgg3 rfl rfl (eqf_int Tryz.underlying3) (eqf_cons (by kernel_rfl) Tryz.isAgg9 rfl rfl (eqf_str Tryz.underlying9) (eqf_cons (by kernel_rfl) Tryz.isAgg9 rfl rfl (eqf_str Tryz.underlying9) (eqf_cons (by kernel_rfl) Tryz.isAgg3 rfl rfl (eqf_int Tryz.underlying3) eqf_nil))))) ?_
      refine ch_nil ?_
      refine awp_cond (ev_tmp rfl) ?_ ?_
      · intro h24
        have hne : decide (a = b) = false := decide_eq_false fun e => by (subst e; rw [hx] at hy; injection hy with hy; rw [op_beq] at h24; simp [hy] at h24)
        rw [hne]
        refine awp_seq ?_
        refine awp_region ?_
        refine sq_plain rfl rfl rfl (w_assign rfl ev_cb) ?_
        refine sq_nil ?_
        refine awp_ret ?_
        exact retR rfl (rv_tmp' rfl (by rfl))
      · intro h24
        refine awp_skip ?_
        refine awp_region ?_
        refine sq_plain rfl rfl rfl (w_addi rfl (ev_tmp rfl) ev_ci (by first | omega | ((try simp only [List.length_map, List.length_take, List.length_cons, List.length_nil, chunks_len, szR] at *); omega) | (have hc2 := hc; simp only [Bool.and_eq_true, Bool.or_eq_true, Bool.or_eq_false_iff, Bool.and_eq_false_iff, Bool.not_eq_true', Bool.not_eq_false', decide_eq_true_eq, decide_eq_false_iff_not, beq_iff_eq, bne_iff_ne, List.length_map, List.length_take] at hc2; omega))) ?_
        refine sq_plain rfl rfl rfl (w_move rfl (ev_tmp rfl)) ?_
        refine sq_nil ?_
        refine round_end i (i + 1) ?_ ?_ (le_env ⟨rfl, rfl, rfl, rfl, trivial⟩)
        · exact ⟨by omega, by rw [List.take_add_one, List.take_add_one, hinv.2, hx, hy]; congr 2; rw [op_beq] at h24; simpa using h24⟩
        · omega
    · intro h14
      have k14 := of_decide_eq_false h14; try simp only [List.length_map] at k14
      have hyes : decide (a = b) = true := decide_eq_true (by have h9 := hinv.2; rw [List.take_of_length_le (by omega), List.take_of_length_le (by omega)] at h9; exact h9)
      rw [hyes]
      refine awp_exit ?_
      refine awp_seq ?_
      refine awp_region ?_
      refine sq_plain rfl rfl rfl (w_assign rfl ev_cb) ?_
      refine sq_nil ?_
      refine awp_ret ?_
      exact retR rfl (rv_tmp' rfl (by rfl))
theorem opOf_size {w : List Str} {m : Nat} (h : ∀ p ∈ w, p.length ≤ m) : (opOf w).size ≤ 2 * m := by
  have h1 : (w.getD 1 []).length ≤ m := by
    cases hw : w[1]? with
    | none => rw [List.getD_eq_getElem?_getD, hw]; exact Nat.zero_le _
    | some p => rw [List.getD_eq_getElem?_getD, hw]; exact h p (List.mem_of_getElem? hw)
  have h2 : (w.getD 2 []).length ≤ m := by
    cases hw : w[2]? with
    | none => rw [List.getD_eq_getElem?_getD, hw]; exact Nat.zero_le _
    | some p => rw [List.getD_eq_getElem?_getD, hw]; exact h p (List.mem_of_getElem? hw)
  unfold opOf TOp.size
  dsimp only
  split
  · omega
  · simp only [List.length_nil]; omega
theorem opOfS_size {w : List Str} {m : Nat} (h : ∀ p ∈ w, p.length ≤ m) : (opOfS w).size ≤ 2 * m := by
  have h1 : (w.getD 1 []).length ≤ m := by
    cases hw : w[1]? with
    | none => rw [List.getD_eq_getElem?_getD, hw]; exact Nat.zero_le _
    | some p => rw [List.getD_eq_getElem?_getD, hw]; exact h p (List.mem_of_getElem? hw)
  have h2 : (w.getD 2 []).length ≤ m := by
    cases hw : w[2]? with
    | none => rw [List.getD_eq_getElem?_getD, hw]; exact Nat.zero_le _
    | some p => rw [List.getD_eq_getElem?_getD, hw]; exact h p (List.mem_of_getElem? hw)
  unfold opOfS TOp.size
  dsimp only
  split
  · omega
  · simp only [List.length_nil]; omega
theorem sizeL_appO {α : Type} {f : α → Nat} {l r : List α} : sizeL f (l ++ r) = sizeL f l + sizeL f r := by unfold sizeL; simp; omega
theorem snoc_sz {q : List TOp} {o : TOp} {i m : Nat} (h : sizeL TOp.size q ≤ m * i) (ho : o.size + 1 ≤ m) : sizeL TOp.size (q ++ [o]) ≤ m * (i + 1) := by
  rw [sizeL_appO, Nat.mul_add]
  have : sizeL TOp.size [o] = o.size + 1 := by simp [sizeL]; omega
  omega
theorem two_more {w : List Str} (h : ¬ w.length < 2) : ∃ a b r, w = a :: b :: r := by
  match w, h with
  | a :: b :: r, _ => exact ⟨a, b, r, rfl⟩
  | [], h => simp at h
  | [a], h => simp at h
theorem cnd_t {α β : Type} {l : List α} {f : α → β} {b : Bool} (h : ((((l.map f).length : Nat) : Int) == 3 && b) = true) : l.length = 3 ∧ b = true := by
  rw [Bool.and_eq_true, List.length_map] at h
  exact ⟨by have := h.1; simp at this; omega, h.2⟩
theorem cnd_f {α β : Type} {l : List α} {f : α → β} {b : Bool} (h : ((((l.map f).length : Nat) : Int) == 3 && b) = false) : ¬ (l.length = 3 ∧ b = true) := fun ⟨e1, e2⟩ => by
  rw [List.length_map, e1, e2] at h; cases h
theorem indexW_spec (s : Str) : FSpec Tryz.prog 42 [AV.list 1 (opWs.map fun s => [AV.str s]), AV.str s] (AV.int (idxW s)) := indexS_spec opWs s
theorem readOps_spec (s : Str) (hs : s.length ≤ 1048576) : FSpec Tryz.prog 9 [AV.wt readW (AV.str s)] (AV.tup [AV.list 4 ((parseO s).1.map TOp.cs), AV.bool (parseO s).2]) := by
  refine spec_of_awp Tryz.func9 rfl Tryz.ntmps9 rfl ?_
  refine AWP.le (le_tab (t := 0) rfl) ?_
  refine awp_seq ?_
  refine awp_region ?_
  refine sq_plain rfl rfl rfl (w_assign rfl (ev_cnil (sz := 4))) ?_
  refine sq_plain rfl rfl rfl (w_assign rfl ev_cb) ?_
  refine sq_nil ?_
  refine awp_seq ?_
  refine awp_region ?_
  refine sq_emptyarr rfl rfl rfl rfl Tryz.underlying24 Tryz.sizeOf55 ?_
  intro v9
  refine sq_plain rfl rfl rfl (w_assign rfl (ev_tmp rfl)) ?_
  refine sq_nil ?_
  refine awp_seq ?_
  refine awp_seq ?_
  refine awp_region ?_
  refine sq_plain rfl rfl rfl (w_move rfl (ev_tmp rfl)) ?_
  refine sq_plain rfl rfl rfl (w_seql rfl (ev_tmp rfl) (ev_cs' (l := []) rfl)) ?_
  refine sq_nil ?_
  refine awp_cond (ev_tmp rfl) ?_ ?_
  · intro h11
    have he : parseO s = ([], true) := if_pos (by simpa using h11)
    rw [he]
    refine awp_seq ?_
    refine awp_region ?_
    refine sq_plain rfl rfl rfl (w_move rfl (ev_tmp rfl)) ?_
    refine sq_plain rfl rfl rfl (w_assign rfl (ev_tmp rfl)) ?_
    refine sq_plain rfl rfl rfl (w_assign rfl ev_cb) ?_
    refine sq_nil ?_
    refine awp_ret ?_
    refine ret_seal 0 2 rfl rfl ?_
    exact retN rfl (by decide) (rv_cons (rv_tmp' rfl (by rfl)) (rv_cons (rv_tmp' rfl (by rfl)) rv_nil))
  · intro h11
    have hs0 : ¬ s = [] := by simpa using h11
    refine awp_skip ?_
    refine awp_seq ?_
    refine awp_seq ?_
    refine awp_region ?_
    refine sq_plain rfl rfl rfl (w_move rfl (ev_tmp rfl)) ?_
    refine sq_plain rfl rfl rfl (w_slen rfl Tryz.underlying9 (ev_tmp rfl)) ?_
    refine sq_plain rfl rfl rfl (w_gtr rfl (ev_tmp rfl) ev_ci) ?_
    refine sq_nil ?_
    refine awp_cond (ev_tmp rfl) ?_ ?_
    · intro h15
      have k15 := of_decide_eq_true h15; try simp only [List.length_map] at k15
      have he : parseO s = ([], false) := by (unfold parseO; rw [if_neg hs0, if_pos (by omega)])
      rw [he]
      refine awp_seq ?_
      refine awp_region ?_
      refine sq_plain rfl rfl rfl (w_assign rfl (ev_cnil (sz := 4))) ?_
      refine sq_plain rfl rfl rfl (w_assign rfl ev_cb) ?_
      refine sq_nil ?_
      refine awp_ret ?_
      exact retN rfl (by decide) (rv_cons (rv_tmp' rfl (by rfl)) (rv_cons (rv_tmp' rfl (by rfl)) rv_nil))
    · intro h15
      have k15 := of_decide_eq_false h15; try simp only [List.length_map] at k15
      have hs4 : ¬ 400 < s.length := by omega
      obtain ⟨W, hW⟩ : ∃ W, cutW s = W := ⟨_, rfl⟩
      have hWl : W.length ≤ 401 := by (have h9 := cutW_count s; rw [hW] at h9; omega)
      have hWs : ∀ p ∈ W, p.length ≤ 400 := fun p hp => by (have h9 := cutW_len (s := s) (w := p) (by rw [hW]; exact hp); omega)
      have hpo : parseO s = endP s (partsI W) := by (unfold parseO; rw [if_neg hs0, if_neg hs4, hW])
      refine awp_skip ?_
      refine awp_seq ?_
      refine awp_seq ?_
      refine awp_region ?_
      refine sq_plain rfl rfl rfl (w_move rfl (ev_tmp rfl)) ?_
      refine sq_plain rfl rfl rfl (w_callT 1 rfl rfl Tryz.call41 rfl (split2_spec s hs) (evl_cons (ev_tmp rfl) (evl_cons (ev_cs' (l := [59, 32]) rfl) evl_nil)) (by first | exact fun _ h => h | exact fun _ h => h.1)) ?_
      rw [hW]
      refine sq_plain rfl rfl rfl (w_llen rfl Tryz.underlying34 (ev_tmp rfl)) ?_
      refine sq_plain rfl rfl rfl (w_move rfl ev_ci) ?_
      refine sq_nil ?_
      refine awp_block ?_
      refine awp_loop_i3 [(0, _), (17, _), (18, _)] _ (fun (i : Nat) (v : Value) (q : List TOp) => i ≤ W.length ∧ partsI W = (partsI (W.drop i)).map (q ++ ·) ∧ q.length = i ∧ sizeL TOp.size q ≤ 801 * i) (fun (i : Nat) (v : Value) (q : List TOp) => [.arr v 55 4 (q.map TOp.cs)]) (fun (i : Nat) (v : Value) (q : List TOp) => [(4, AV.is v), (19, AV.int i)]) (fun (i : Nat) (v : Value) (q : List TOp) => W.length - i) (0) (v9) ([]) ?_ (le_eq (by rfl) ⟨rfl, rfl, rfl, rfl, rfl, trivial⟩) ?_
      · exact ⟨Nat.zero_le _, by simp, rfl, by simp [sizeL]⟩
      intro i v q hinv
      refine awp_seq ?_
      refine awp_region ?_
      refine sq_plain rfl rfl rfl (w_lss rfl (ev_tmp rfl) (ev_tmp rfl)) ?_
      refine sq_nil ?_
      refine awp_seq ?_
      refine awp_cond (ev_tmp rfl) ?_ ?_
      · intro h20
        have k20 := of_decide_eq_true h20; try simp only [List.length_map] at k20
        have hlt : i < W.length := by omega
        obtain ⟨x, hx⟩ := get_some hlt
        have hxl := hWs x (List.mem_of_getElem? hx)
        refine awp_skip ?_
        refine awp_seq ?_
        refine awp_block ?_
        refine awp_seq ?_
        refine awp_region ?_
        refine sq_plain rfl rfl rfl (w_idxm rfl Tryz.underlying34 Tryz.sizeOf9 (ev_tmp rfl) (ev_tmp rfl) hx (by first | omega | ((try simp only [List.length_map, List.length_take, List.length_cons, List.length_nil, chunks_len, szR] at *); omega) | (have hc2 := hc; simp only [Bool.and_eq_true, Bool.or_eq_true, Bool.or_eq_false_iff, Bool.and_eq_false_iff, Bool.not_eq_true', Bool.not_eq_false', decide_eq_true_eq, decide_eq_false_iff_not, beq_iff_eq, bne_iff_ne, List.length_map, List.length_take] at hc2; omega))) ?_
        refine sq_plain rfl rfl rfl (w_loadE1 rfl (ev_tmp rfl) Tryz.isAgg9 rfl) ?_
        refine sq_plain rfl rfl rfl (w_assign rfl (ev_tmp rfl)) ?_
        refine sq_nil ?_
        refine awp_seq ?_
        refine awp_region ?_
        refine sq_plain rfl rfl rfl (w_move rfl (ev_tmp rfl)) ?_
        refine sq_plain rfl rfl rfl (w_callT 1 rfl rfl Tryz.call41 rfl (split_spec x 32 (by omega)) (evl_cons (ev_tmp rfl) (evl_cons (ev_cs' (l := [32]) rfl) evl_nil)) (by first | exact fun _ h => h | exact fun _ h => h.1)) ?_
        refine sq_plain rfl rfl rfl (w_assign rfl (ev_tmp rfl)) ?_
        refine sq_nil ?_
        refine awp_seq ?_
        refine awp_seq ?_
        refine awp_region ?_
        refine sq_plain rfl rfl rfl (w_move rfl (ev_tmp rfl)) ?_
        refine sq_plain rfl rfl rfl (w_llen rfl Tryz.underlying34 (ev_tmp rfl)) ?_
        refine sq_plain rfl rfl rfl (w_lss rfl (ev_tmp rfl) ev_ci) ?_
        refine sq_nil ?_
        refine awp_cond (ev_tmp rfl) ?_ ?_
        · intro h27
          have k27 := of_decide_eq_true h27; try simp only [List.length_map] at k27
          have he : parseO s = ([], false) := by (rw [hpo, partsI_stop hinv.2.1 hx (by omega)]; rfl)
          rw [he]
          refine awp_seq ?_
          refine awp_region ?_
          refine sq_plain rfl rfl rfl (w_assign rfl (ev_cnil (sz := 4))) ?_
          refine sq_plain rfl rfl rfl (w_assign rfl ev_cb) ?_
          refine sq_nil ?_
          refine awp_ret ?_
          exact retN rfl (by decide) (rv_cons (rv_tmp' rfl (by rfl)) (rv_cons (rv_tmp' rfl (by rfl)) rv_nil))
        · intro h27
          have k27 := of_decide_eq_false h27; try simp only [List.length_map] at k27
          obtain ⟨y0, y1, r, hw⟩ := two_more (w := splitC 32 x) (by omega)
          have hy0 : y0.length ≤ x.length := splitC_len (c := 32) (by rw [hw]; exact List.mem_cons_self)
          have hy1 : y1.length ≤ x.length := splitC_len (c := 32) (by rw [hw]; exact List.mem_cons_of_mem _ List.mem_cons_self)
          obtain ⟨y2, hy2⟩ := get_any (y0 :: y1 :: r) 2
          have hy2l : 2 < (y0 :: y1 :: r).length → y2.length ≤ x.length := fun h9 => splitC_len (c := 32) (by rw [hw]; exact List.mem_of_getElem? (hy2 h9))
          rw [hw]
          refine awp_skip ?_
          refine awp_seq ?_
          refine awp_region_tree _ 10 (.pure 0 (.pure 1 (.pure 2 (.pure 3 (.pure 4 (.pure 5 (.pure 6 (.pure 7 (.pure 8 (.e1 9 .nil)))))))))) (by kernel_rfl) (by kernel_rfl) rfl invx_self ?_
          refine bt_plain rfl rfl rfl (fun ext => w_call rfl Tryz.call43 rfl (opWords_spec) evl_nil) ?_
          refine bt_plain rfl rfl rfl (fun ext => w_move rfl (ev_tmp rfl)) ?_
          refine bt_plain rfl rfl rfl (fun ext => w_idxm rfl Tryz.underlying34 Tryz.sizeOf9 (ev_tmp rfl) ev_ci (show (y0 :: y1 :: r)[0]? = some y0 from rfl) (by first | omega | ((try simp only [List.length_map, List.length_take, List.length_cons, List.length_nil, chunks_len, szR] at *); omega) | (have hc2 := hc; simp only [Bool.and_eq_true, Bool.or_eq_true, Bool.or_eq_false_iff, Bool.and_eq_false_iff, Bool.not_eq_true', Bool.not_eq_false', decide_eq_true_eq, decide_eq_false_iff_not, beq_iff_eq, bne_iff_ne, List.length_map, List.length_take] at hc2; omega))) ?_
          refine bt_plain rfl rfl rfl (fun ext => w_loadE1 rfl (ev_tmp rfl) Tryz.isAgg9 rfl) ?_
          refine bt_plain rfl rfl rfl (fun ext => w_call rfl Tryz.call42 rfl (indexW_spec y0) (evl_cons (ev_tmp rfl) (evl_cons (ev_tmp rfl) evl_nil))) ?_
          refine bt_plain rfl rfl rfl (fun ext => w_move rfl (ev_tmp rfl)) ?_
          refine bt_plain rfl rfl rfl (fun ext => w_idxm rfl Tryz.underlying34 Tryz.sizeOf9 (ev_tmp rfl) ev_ci (show (y0 :: y1 :: r)[1]? = some y1 from rfl) (by first | omega | ((try simp only [List.length_map, List.length_take, List.length_cons, List.length_nil, chunks_len, szR] at *); omega) | (have hc2 := hc; simp only [Bool.and_eq_true, Bool.or_eq_true, Bool.or_eq_false_iff, Bool.and_eq_false_iff, Bool.not_eq_true', Bool.not_eq_false', decide_eq_true_eq, decide_eq_false_iff_not, beq_iff_eq, bne_iff_ne, List.length_map, List.length_take] at hc2; omega))) ?_
          refine bt_plain rfl rfl rfl (fun ext => w_loadE1 rfl (ev_tmp rfl) Tryz.isAgg9 rfl) ?_
          refine bt_plain rfl rfl rfl (fun ext => w_build (places := #[(0, 1), (1, 1), (2, 1), (3, 1)]) rfl Tryz.underlying55 Tryz.zeroValue55 (fun w => by kernel_rfl) rfl (bp_cons (ev_tmp rfl) (as_ik _ _) (bp_cons (ev_tmp rfl) (as_str _) bp_nil)) rfl) ?_
          refine bt_e1 ?_
          refine eff_s rfl rfl rfl (opE_alloc rfl Tryz.zeroValue55 rfl) (fun a _ => (by first | exact invx_mk rfl | exact invx_mk (List.append_assoc _ _ _) | exact invx_all)) ?_
          intro b8 _
          refine bt_nil ?_
          refine sq_storeB0 2 rfl rfl rfl (ev_tmp rfl) (ev_tmp rfl) (as_agg _) rfl Tryz.sizeOf55 rfl ?_
          refine sq_nil ?_
          refine awp_seq ?_
          refine awp_seq ?_
          refine awp_region ?_
          refine sq_plain rfl rfl rfl (w_move rfl (ev_tmp rfl)) ?_
          refine sq_plain rfl rfl rfl (w_llen rfl Tryz.underlying34 (ev_tmp rfl)) ?_
          refine sq_plain rfl rfl rfl (w_eql rfl (ev_tmp rfl) ev_ci) ?_
          refine sq_plain rfl rfl rfl (w_move rfl (ev_tmp rfl)) ?_
          refine sq_grd rfl rfl (guard_t rfl rfl rfl) (fun hc => w_fldBn 0 rfl Tryz.underlying55 rfl Tryz.sizeOf3 (ev_tmp rfl) rfl) ?_
          refine sq_grd rfl rfl (guard_t rfl rfl rfl) (fun hc => w_loadB1 2 rfl (ev_whn rfl hc) rfl Tryz.isAgg3 rfl) ?_
          refine sq_grd rfl rfl (guard_t rfl rfl rfl) (fun hc => w_call rfl Tryz.call44 rfl (hasVal_spec _) (evl_cons (ev_whn rfl hc) evl_nil)) ?_
          refine sq_plain rfl rfl rfl (w_and rfl (ev_tmp rfl) (evif_w rfl)) ?_
          refine sq_nil ?_
          refine awp_cond (ev_tmp rfl) ?_ ?_
          · intro h44
            refine awp_region ?_
            refine sq_plain rfl rfl rfl (w_move rfl (ev_tmp rfl)) ?_
            refine sq_plain rfl rfl rfl (w_idxm rfl Tryz.underlying34 Tryz.sizeOf9 (ev_tmp rfl) ev_ci (hy2 (by have h9 := h44; simp [List.length_map] at h9 ⊢; omega)) (by first | omega | ((try simp only [List.length_map, List.length_take, List.length_cons, List.length_nil, chunks_len, szR] at *); omega) | (have hc2 := hc; simp only [Bool.and_eq_true, Bool.or_eq_true, Bool.or_eq_false_iff, Bool.and_eq_false_iff, Bool.not_eq_true', Bool.not_eq_false', decide_eq_true_eq, decide_eq_false_iff_not, beq_iff_eq, bne_iff_ne, List.length_map, List.length_take] at hc2; omega))) ?_
            refine sq_plain rfl rfl rfl (w_loadE1 rfl (ev_tmp rfl) Tryz.isAgg9 rfl) ?_
            refine sq_plain rfl rfl rfl (w_fldBn 2 rfl Tryz.underlying55 rfl Tryz.sizeOf9 (ev_tmp rfl) rfl) ?_
            refine sq_storeB1 2 rfl rfl rfl (ev_tmp rfl) (ev_tmp rfl) (as_str _) rfl Tryz.sizeOf9 rfl ?_
            refine sq_nil ?_
            refine awp_seq ?_
            refine awp_seq ?_
            refine awp_region ?_
            refine sq_plain rfl rfl rfl (w_move rfl (ev_tmp rfl)) ?_
            refine sq_plain rfl rfl rfl (w_llen rfl Tryz.underlying34 (ev_tmp rfl)) ?_
            refine sq_plain rfl rfl rfl (w_eql rfl (ev_tmp rfl) ev_ci) ?_
            refine sq_plain rfl rfl rfl (w_move rfl (ev_tmp rfl)) ?_
            refine sq_grd rfl rfl (guard_t rfl rfl rfl) (fun hc => w_fldBn 0 rfl Tryz.underlying55 rfl Tryz.sizeOf3 (ev_tmp rfl) rfl) ?_
            refine sq_grd rfl rfl (guard_t rfl rfl rfl) (fun hc => w_loadB1 2 rfl (ev_whn rfl hc) rfl Tryz.isAgg3 rfl) ?_
            refine sq_grd rfl rfl (guard_t rfl rfl rfl) (fun hc => w_call rfl Tryz.call45 rfl (hasBy_spec _) (evl_cons (ev_whn rfl hc) evl_nil)) ?_
            refine sq_plain rfl rfl rfl (w_and rfl (ev_tmp rfl) (evif_w rfl)) ?_
            refine sq_nil ?_
            refine awp_cond (ev_tmp rfl) ?_ ?_
            · intro h56
              refine awp_region ?_
              refine sq_plain rfl rfl rfl (w_move rfl (ev_tmp rfl)) ?_
              refine sq_plain rfl rfl rfl (w_idxm rfl Tryz.underlying34 Tryz.sizeOf9 (ev_tmp rfl) ev_ci (hy2 (by have h9 := h56; simp [List.length_map] at h9 ⊢; omega)) (by first | omega | ((try simp only [List.length_map, List.length_take, List.length_cons, List.length_nil, chunks_len, szR] at *); omega) | (have hc2 := hc; simp only [Bool.and_eq_true, Bool.or_eq_true, Bool.or_eq_false_iff, Bool.and_eq_false_iff, Bool.not_eq_true', Bool.not_eq_false', decide_eq_true_eq, decide_eq_false_iff_not, beq_iff_eq, bne_iff_ne, List.length_map, List.length_take] at hc2; omega))) ?_
              refine sq_plain rfl rfl rfl (w_loadE1 rfl (ev_tmp rfl) Tryz.isAgg9 rfl) ?_
              refine sq_plain rfl rfl rfl (w_callT 1 rfl rfl Tryz.call46 rfl (readInt_spec y2 (-9999) 9999 (by have h8 := hy2l (by have h9 := h56; simp [List.length_map] at h9 ⊢; omega); omega)) (evl_cons (ev_tmp rfl) (evl_cons ev_ci (evl_cons ev_ci evl_nil))) (by first | exact fun _ h => h | exact fun _ h => h.1)) ?_
              refine sq_plain rfl rfl rfl (w_move rfl (ev_tmp rfl)) ?_
              refine sq_plain rfl rfl rfl (w_extract rfl (ev_tmp rfl) rfl) ?_
              refine sq_plain rfl rfl rfl (w_extract rfl (ev_tmp rfl) rfl) ?_
              refine sq_plain rfl rfl rfl (w_fldBn 3 rfl Tryz.underlying55 rfl Tryz.sizeOf3 (ev_tmp rfl) rfl) ?_
              refine sq_storeB1 2 rfl rfl rfl (ev_tmp rfl) (ev_tmp rfl) (as_ik _ _) rfl Tryz.sizeOf3 rfl ?_
              refine sq_nil ?_
              refine awp_region ?_
              refine sq_plain rfl rfl rfl (w_move rfl (ev_tmp rfl)) ?_
              refine sq_plain rfl rfl rfl (w_loadA 2 rfl (ev_tmp rfl) rfl Tryz.isAgg55 Tryz.sizeOf55 rfl) ?_
              refine sq_plain rfl rfl rfl (w_bslice rfl Tryz.underlying24 Tryz.sizeOf55 Tryz.zeroValue55 rfl rfl rfl rfl (bp_cons (ev_tmp rfl) (as_agg _) bp_nil) rfl rfl) ?_
              refine sq_append (by' := 48) 0 rfl rfl rfl rfl Tryz.underlying24 Tryz.type55 rfl rfl rfl rfl rfl rfl (ev_tmp rfl) (ev_tmp rfl) rfl (by first | omega | ((try simp only [List.length_map, List.length_take, List.length_cons, List.length_nil, chunks_len, szR] at *); omega) | (have hc2 := hc; simp only [Bool.and_eq_true, Bool.or_eq_true, Bool.or_eq_false_iff, Bool.and_eq_false_iff, Bool.not_eq_true', Bool.not_eq_false', decide_eq_true_eq, decide_eq_false_iff_not, beq_iff_eq, bne_iff_ne, List.length_map, List.length_take] at hc2; omega)) ?_
              intro v68_1
              refine sq_plain rfl rfl rfl (w_assign rfl (ev_tmp rfl)) ?_
              refine sq_nil ?_
              refine awp_region ?_
              refine sq_plain rfl rfl rfl (w_addi rfl (ev_tmp rfl) ev_ci (by first | omega | ((try simp only [List.length_map, List.length_take, List.length_cons, List.length_nil, chunks_len, szR] at *); omega) | (have hc2 := hc; simp only [Bool.and_eq_true, Bool.or_eq_true, Bool.or_eq_false_iff, Bool.and_eq_false_iff, Bool.not_eq_true', Bool.not_eq_false', decide_eq_true_eq, decide_eq_false_iff_not, beq_iff_eq, bne_iff_ne, List.length_map, List.length_take] at hc2; omega))) ?_
              refine sq_plain rfl rfl rfl (w_move rfl (ev_tmp rfl)) ?_
              refine sq_nil ?_
              refine round_end3 i v q (i + 1) (v68_1) (q ++ [opOf (splitC 32 x)]) ?_ ?_ (Le.trans (le_pick [2, 0] rfl) (le_dropeq 1 (by exact congrArg (fun z => Own.arr _ 55 4 z :: _) (by rw [List.map_append]; exact congrArg (fun z => _ ++ [z]) (by first | exact ((opOf_cs hw hy2).trans (by rw [if_pos (cnd_t h44), if_pos (cnd_t h56)]; first | done | rfl)).symm | exact ((opOf_cs hw hy2).trans (by rw [if_pos (cnd_t h44), if_neg (cnd_f h56)]; first | done | rfl)).symm | exact ((opOf_cs hw hy2).trans (by rw [if_neg (cnd_f h44), if_pos (cnd_t h56)]; first | done | rfl)).symm | exact ((opOf_cs hw hy2).trans (by rw [if_neg (cnd_f h44), if_neg (cnd_f h56)]; first | done | rfl)).symm))) ⟨rfl, rfl, rfl, rfl, rfl, trivial⟩))
              · exact ⟨by omega, partsI_step hinv.2.1 hx (by omega), by rw [List.length_append, hinv.2.2.1]; rfl, snoc_sz hinv.2.2.2 (by have h9 := opOf_size (w := splitC 32 x) (m := 400) (fun p hp => by have h8 := splitC_len hp; omega); omega)⟩
              · omega
            · intro h56
              refine awp_skip ?_
              refine awp_region ?_
              refine sq_plain rfl rfl rfl (w_move rfl (ev_tmp rfl)) ?_
              refine sq_plain rfl rfl rfl (w_loadA 2 rfl (ev_tmp rfl) rfl Tryz.isAgg55 Tryz.sizeOf55 rfl) ?_
              refine sq_plain rfl rfl rfl (w_bslice rfl Tryz.underlying24 Tryz.sizeOf55 Tryz.zeroValue55 rfl rfl rfl rfl (bp_cons (ev_tmp rfl) (as_agg _) bp_nil) rfl rfl) ?_
              refine sq_append (by' := 48) 0 rfl rfl rfl rfl Tryz.underlying24 Tryz.type55 rfl rfl rfl rfl rfl rfl (ev_tmp rfl) (ev_tmp rfl) rfl (by first | omega | ((try simp only [List.length_map, List.length_take, List.length_cons, List.length_nil, chunks_len, szR] at *); omega) | (have hc2 := hc; simp only [Bool.and_eq_true, Bool.or_eq_true, Bool.or_eq_false_iff, Bool.and_eq_false_iff, Bool.not_eq_true', Bool.not_eq_false', decide_eq_true_eq, decide_eq_false_iff_not, beq_iff_eq, bne_iff_ne, List.length_map, List.length_take] at hc2; omega)) ?_
              intro v68_2
              refine sq_plain rfl rfl rfl (w_assign rfl (ev_tmp rfl)) ?_
              refine sq_nil ?_
              refine awp_region ?_
              refine sq_plain rfl rfl rfl (w_addi rfl (ev_tmp rfl) ev_ci (by first | omega | ((try simp only [List.length_map, List.length_take, List.length_cons, List.length_nil, chunks_len, szR] at *); omega) | (have hc2 := hc; simp only [Bool.and_eq_true, Bool.or_eq_true, Bool.or_eq_false_iff, Bool.and_eq_false_iff, Bool.not_eq_true', Bool.not_eq_false', decide_eq_true_eq, decide_eq_false_iff_not, beq_iff_eq, bne_iff_ne, List.length_map, List.length_take] at hc2; omega))) ?_
              refine sq_plain rfl rfl rfl (w_move rfl (ev_tmp rfl)) ?_
              refine sq_nil ?_
              refine round_end3 i v q (i + 1) (v68_2) (q ++ [opOf (splitC 32 x)]) ?_ ?_ (Le.trans (le_pick [2, 0] rfl) (le_dropeq 1 (by exact congrArg (fun z => Own.arr _ 55 4 z :: _) (by rw [List.map_append]; exact congrArg (fun z => _ ++ [z]) (by first | exact ((opOf_cs hw hy2).trans (by rw [if_pos (cnd_t h44), if_pos (cnd_t h56)]; first | done | rfl)).symm | exact ((opOf_cs hw hy2).trans (by rw [if_pos (cnd_t h44), if_neg (cnd_f h56)]; first | done | rfl)).symm | exact ((opOf_cs hw hy2).trans (by rw [if_neg (cnd_f h44), if_pos (cnd_t h56)]; first | done | rfl)).symm | exact ((opOf_cs hw hy2).trans (by rw [if_neg (cnd_f h44), if_neg (cnd_f h56)]; first | done | rfl)).symm))) ⟨rfl, rfl, rfl, rfl, rfl, trivial⟩))
              · exact ⟨by omega, partsI_step hinv.2.1 hx (by omega), by rw [List.length_append, hinv.2.2.1]; rfl, snoc_sz hinv.2.2.2 (by have h9 := opOf_size (w := splitC 32 x) (m := 400) (fun p hp => by have h8 := splitC_len hp; omega); omega)⟩
              · omega
          · intro h44
            refine awp_skip ?_
            refine awp_seq ?_
            refine awp_seq ?_
            refine awp_region ?_
            refine sq_plain rfl rfl rfl (w_move rfl (ev_tmp rfl)) ?_
            refine sq_plain rfl rfl rfl (w_llen rfl Tryz.underlying34 (ev_tmp rfl)) ?_
            refine sq_plain rfl rfl rfl (w_eql rfl (ev_tmp rfl) ev_ci) ?_
            refine sq_plain rfl rfl rfl (w_move rfl (ev_tmp rfl)) ?_
            refine sq_grd rfl rfl (guard_t rfl rfl rfl) (fun hc => w_fldBn 0 rfl Tryz.underlying55 rfl Tryz.sizeOf3 (ev_tmp rfl) rfl) ?_
            refine sq_grd rfl rfl (guard_t rfl rfl rfl) (fun hc => w_loadB1 2 rfl (ev_whn rfl hc) rfl Tryz.isAgg3 rfl) ?_
            refine sq_grd rfl rfl (guard_t rfl rfl rfl) (fun hc => w_call rfl Tryz.call45 rfl (hasBy_spec _) (evl_cons (ev_whn rfl hc) evl_nil)) ?_
            refine sq_plain rfl rfl rfl (w_and rfl (ev_tmp rfl) (evif_w rfl)) ?_
            refine sq_nil ?_
            refine awp_cond (ev_tmp rfl) ?_ ?_
            · intro h56
              refine awp_region ?_
              refine sq_plain rfl rfl rfl (w_move rfl (ev_tmp rfl)) ?_
              refine sq_plain rfl rfl rfl (w_idxm rfl Tryz.underlying34 Tryz.sizeOf9 (ev_tmp rfl) ev_ci (hy2 (by have h9 := h56; simp [List.length_map] at h9 ⊢; omega)) (by first | omega | ((try simp only [List.length_map, List.length_take, List.length_cons, List.length_nil, chunks_len, szR] at *); omega) | (have hc2 := hc; simp only [Bool.and_eq_true, Bool.or_eq_true, Bool.or_eq_false_iff, Bool.and_eq_false_iff, Bool.not_eq_true', Bool.not_eq_false', decide_eq_true_eq, decide_eq_false_iff_not, beq_iff_eq, bne_iff_ne, List.length_map, List.length_take] at hc2; omega))) ?_
              refine sq_plain rfl rfl rfl (w_loadE1 rfl (ev_tmp rfl) Tryz.isAgg9 rfl) ?_
              refine sq_plain rfl rfl rfl (w_callT 1 rfl rfl Tryz.call46 rfl (readInt_spec y2 (-9999) 9999 (by have h8 := hy2l (by have h9 := h56; simp [List.length_map] at h9 ⊢; omega); omega)) (evl_cons (ev_tmp rfl) (evl_cons ev_ci (evl_cons ev_ci evl_nil))) (by first | exact fun _ h => h | exact fun _ h => h.1)) ?_
              refine sq_plain rfl rfl rfl (w_move rfl (ev_tmp rfl)) ?_
              refine sq_plain rfl rfl rfl (w_extract rfl (ev_tmp rfl) rfl) ?_
              refine sq_plain rfl rfl rfl (w_extract rfl (ev_tmp rfl) rfl) ?_
              refine sq_plain rfl rfl rfl (w_fldBn 3 rfl Tryz.underlying55 rfl Tryz.sizeOf3 (ev_tmp rfl) rfl) ?_
              refine sq_storeB1 2 rfl rfl rfl (ev_tmp rfl) (ev_tmp rfl) (as_ik _ _) rfl Tryz.sizeOf3 rfl ?_
              refine sq_nil ?_
              refine awp_region ?_
              refine sq_plain rfl rfl rfl (w_move rfl (ev_tmp rfl)) ?_
              refine sq_plain rfl rfl rfl (w_loadA 2 rfl (ev_tmp rfl) rfl Tryz.isAgg55 Tryz.sizeOf55 rfl) ?_
              refine sq_plain rfl rfl rfl (w_bslice rfl Tryz.underlying24 Tryz.sizeOf55 Tryz.zeroValue55 rfl rfl rfl rfl (bp_cons (ev_tmp rfl) (as_agg _) bp_nil) rfl rfl) ?_
              refine sq_append (by' := 48) 0 rfl rfl rfl rfl Tryz.underlying24 Tryz.type55 rfl rfl rfl rfl rfl rfl (ev_tmp rfl) (ev_tmp rfl) rfl (by first | omega | ((try simp only [List.length_map, List.length_take, List.length_cons, List.length_nil, chunks_len, szR] at *); omega) | (have hc2 := hc; simp only [Bool.and_eq_true, Bool.or_eq_true, Bool.or_eq_false_iff, Bool.and_eq_false_iff, Bool.not_eq_true', Bool.not_eq_false', decide_eq_true_eq, decide_eq_false_iff_not, beq_iff_eq, bne_iff_ne, List.length_map, List.length_take] at hc2; omega)) ?_
              intro v68_3
              refine sq_plain rfl rfl rfl (w_assign rfl (ev_tmp rfl)) ?_
              refine sq_nil ?_
              refine awp_region ?_
              refine sq_plain rfl rfl rfl (w_addi rfl (ev_tmp rfl) ev_ci (by first | omega | ((try simp only [List.length_map, List.length_take, List.length_cons, List.length_nil, chunks_len, szR] at *); omega) | (have hc2 := hc; simp only [Bool.and_eq_true, Bool.or_eq_true, Bool.or_eq_false_iff, Bool.and_eq_false_iff, Bool.not_eq_true', Bool.not_eq_false', decide_eq_true_eq, decide_eq_false_iff_not, beq_iff_eq, bne_iff_ne, List.length_map, List.length_take] at hc2; omega))) ?_
              refine sq_plain rfl rfl rfl (w_move rfl (ev_tmp rfl)) ?_
              refine sq_nil ?_
              refine round_end3 i v q (i + 1) (v68_3) (q ++ [opOf (splitC 32 x)]) ?_ ?_ (Le.trans (le_pick [2, 0] rfl) (le_dropeq 1 (by exact congrArg (fun z => Own.arr _ 55 4 z :: _) (by rw [List.map_append]; exact congrArg (fun z => _ ++ [z]) (by first | exact ((opOf_cs hw hy2).trans (by rw [if_pos (cnd_t h44), if_pos (cnd_t h56)]; first | done | rfl)).symm | exact ((opOf_cs hw hy2).trans (by rw [if_pos (cnd_t h44), if_neg (cnd_f h56)]; first | done | rfl)).symm | exact ((opOf_cs hw hy2).trans (by rw [if_neg (cnd_f h44), if_pos (cnd_t h56)]; first | done | rfl)).symm | exact ((opOf_cs hw hy2).trans (by rw [if_neg (cnd_f h44), if_neg (cnd_f h56)]; first | done | rfl)).symm))) ⟨rfl, rfl, rfl, rfl, rfl, trivial⟩))
              · exact ⟨by omega, partsI_step hinv.2.1 hx (by omega), by rw [List.length_append, hinv.2.2.1]; rfl, snoc_sz hinv.2.2.2 (by have h9 := opOf_size (w := splitC 32 x) (m := 400) (fun p hp => by have h8 := splitC_len hp; omega); omega)⟩
              · omega
            · intro h56
              refine awp_skip ?_
              refine awp_region ?_
              refine sq_plain rfl rfl rfl (w_move rfl (ev_tmp rfl)) ?_
              refine sq_plain rfl rfl rfl (w_loadA 2 rfl (ev_tmp rfl) rfl Tryz.isAgg55 Tryz.sizeOf55 rfl) ?_
              refine sq_plain rfl rfl rfl (w_bslice rfl Tryz.underlying24 Tryz.sizeOf55 Tryz.zeroValue55 rfl rfl rfl rfl (bp_cons (ev_tmp rfl) (as_agg _) bp_nil) rfl rfl) ?_
              refine sq_append (by' := 48) 0 rfl rfl rfl rfl Tryz.underlying24 Tryz.type55 rfl rfl rfl rfl rfl rfl (ev_tmp rfl) (ev_tmp rfl) rfl (by first | omega | ((try simp only [List.length_map, List.length_take, List.length_cons, List.length_nil, chunks_len, szR] at *); omega) | (have hc2 := hc; simp only [Bool.and_eq_true, Bool.or_eq_true, Bool.or_eq_false_iff, Bool.and_eq_false_iff, Bool.not_eq_true', Bool.not_eq_false', decide_eq_true_eq, decide_eq_false_iff_not, beq_iff_eq, bne_iff_ne, List.length_map, List.length_take] at hc2; omega)) ?_
              intro v68_4
              refine sq_plain rfl rfl rfl (w_assign rfl (ev_tmp rfl)) ?_
              refine sq_nil ?_
              refine awp_region ?_
              refine sq_plain rfl rfl rfl (w_addi rfl (ev_tmp rfl) ev_ci (by first | omega | ((try simp only [List.length_map, List.length_take, List.length_cons, List.length_nil, chunks_len, szR] at *); omega) | (have hc2 := hc; simp only [Bool.and_eq_true, Bool.or_eq_true, Bool.or_eq_false_iff, Bool.and_eq_false_iff, Bool.not_eq_true', Bool.not_eq_false', decide_eq_true_eq, decide_eq_false_iff_not, beq_iff_eq, bne_iff_ne, List.length_map, List.length_take] at hc2; omega))) ?_
              refine sq_plain rfl rfl rfl (w_move rfl (ev_tmp rfl)) ?_
              refine sq_nil ?_
              refine round_end3 i v q (i + 1) (v68_4) (q ++ [opOf (splitC 32 x)]) ?_ ?_ (Le.trans (le_pick [2, 0] rfl) (le_dropeq 1 (by exact congrArg (fun z => Own.arr _ 55 4 z :: _) (by rw [List.map_append]; exact congrArg (fun z => _ ++ [z]) (by first | exact ((opOf_cs hw hy2).trans (by rw [if_pos (cnd_t h44), if_pos (cnd_t h56)]; first | done | rfl)).symm | exact ((opOf_cs hw hy2).trans (by rw [if_pos (cnd_t h44), if_neg (cnd_f h56)]; first | done | rfl)).symm | exact ((opOf_cs hw hy2).trans (by rw [if_neg (cnd_f h44), if_pos (cnd_t h56)]; first | done | rfl)).symm | exact ((opOf_cs hw hy2).trans (by rw [if_neg (cnd_f h44), if_neg (cnd_f h56)]; first | done | rfl)).symm))) ⟨rfl, rfl, rfl, rfl, rfl, trivial⟩))
              · exact ⟨by omega, partsI_step hinv.2.1 hx (by omega), by rw [List.length_append, hinv.2.2.1]; rfl, snoc_sz hinv.2.2.2 (by have h9 := opOf_size (w := splitC 32 x) (m := 400) (fun p hp => by have h8 := splitC_len hp; omega); omega)⟩
              · omega
      · intro h20
        have k20 := of_decide_eq_false h20; try simp only [List.length_map] at k20
        have hpe := partsI_end hinv.2.1 (show W.length ≤ i by omega)
        rw [hpe] at hpo
        have hpq : parseO s = endO s q := hpo
        have hqs : sizeL TOp.size q ≤ 1048576 := by omega
        refine awp_exit ?_
        refine awp_seq ?_
        refine awp_seq ?_
        refine awp_region ?_
        refine sq_plain rfl rfl rfl (w_move rfl (ev_tmp rfl)) ?_
        refine sq_plain rfl rfl rfl (w_callB rfl Tryz.call37 rfl (goodOps_spec _ (by first | assumption | omega)) (flat_bool _) (evlb_cons (evb_arr 0 (ev_tmp rfl) rfl) evlb_nil)) ?_
        refine sq_plain rfl rfl rfl (w_not rfl (ev_tmp rfl)) ?_
        refine sq_plain rfl rfl rfl (w_move rfl (ev_tmp rfl)) ?_
        refine sq_grd rfl rfl (guard_f rfl rfl rfl) (fun hc => w_move rfl (ev_tmp rfl)) ?_
        refine sq_grd rfl rfl (guard_f rfl rfl rfl) (fun hc => w_callB rfl Tryz.call38 rfl (opsText_spec q (by first | (simpa using hc) | (rw [Bool.not_eq_false'] at hc; exact hc))) (flat_str _) (evlb_cons (evb_wt 1 rfl (by first | exact fun _ h => h | exact fun _ h => h.1) (evb_arr 0 (ev_whn rfl hc) rfl)) evlb_nil)) ?_
        refine sq_grd rfl rfl (guard_f rfl rfl rfl) (fun hc => w_move rfl (ev_tmp rfl)) ?_
        refine sq_grd rfl rfl (guard_f rfl rfl rfl) (fun hc => w_sneq rfl (ev_whn rfl hc) (ev_whn rfl hc)) ?_
        refine sq_plain rfl rfl rfl (w_or rfl (ev_tmp rfl) (evif_w rfl)) ?_
        refine sq_nil ?_
        refine awp_cond (ev_tmp rfl) ?_ ?_
        · intro h78
          have he : parseO s = ([], false) := hpq.trans (if_pos h78)
          rw [he]
          refine awp_seq ?_
          refine awp_region ?_
          refine sq_plain rfl rfl rfl (w_assign rfl (ev_cnil (sz := 4))) ?_
          refine sq_plain rfl rfl rfl (w_assign rfl ev_cb) ?_
          refine sq_nil ?_
          refine awp_ret ?_
          exact retN rfl (by decide) (rv_cons (rv_tmp' rfl (by rfl)) (rv_cons (rv_tmp' rfl (by rfl)) rv_nil))
        · intro h78
          have he : parseO s = (q, true) := hpq.trans (if_neg (by rw [h78]; decide))
          rw [he]
          refine awp_skip ?_
          refine awp_seq ?_
          refine awp_region ?_
          refine sq_plain rfl rfl rfl (w_move rfl (ev_tmp rfl)) ?_
          refine sq_plain rfl rfl rfl (w_assign rfl (ev_tmp rfl)) ?_
          refine sq_plain rfl rfl rfl (w_assign rfl ev_cb) ?_
          refine sq_nil ?_
          refine awp_ret ?_
          refine ret_seal 0 2 rfl rfl ?_
          exact retN rfl (by decide) (rv_cons (rv_tmp' rfl (by rfl)) (rv_cons (rv_tmp' rfl (by rfl)) rv_nil))
end Go.Proofs.YtmlmmgeadombbaaGreatDoor

set_option linter.unusedVariables false
set_option linter.unusedSimpArgs false
set_option maxRecDepth 100000
set_option maxHeartbeats 1000000
namespace Go.M
open Go.AV
end Go.M
namespace Go.Proofs.YtmlmmgeadombbaaGreatDoor
open Go Go.AV Go.M
attribute [local irreducible] OpW OpA OpS AWP FSpec ESpec GSpec OpE RetOk RetOkG RvDen Le Ev GuardIs SrcIs Int.tmod Int.tdiv IntKind.wrap
end Go.Proofs.YtmlmmgeadombbaaGreatDoor

set_option linter.unusedVariables false
set_option linter.unusedSimpArgs false
namespace Go.M
structure TSrc where
  at' : Nat
  bad : Bool
end Go.M

set_option linter.unusedVariables false
set_option linter.unusedSimpArgs false
set_option maxRecDepth 100000
namespace Go.M
open Go.AV
end Go.M
namespace Go.Proofs.YtmlmmgeadombbaaGreatDoor
open Go Go.AV Go.M
attribute [local irreducible] OpW OpA OpS AWP FSpec ESpec GSpec OpE RetOk RetOkG RvDen Le Ev GuardIs SrcIs Int.tmod Int.tdiv IntKind.wrap
end Go.Proofs.YtmlmmgeadombbaaGreatDoor

set_option linter.unusedVariables false
set_option linter.unusedSimpArgs false
set_option maxRecDepth 100000
namespace Go.M
open Go.AV
end Go.M
namespace Go.Proofs.YtmlmmgeadombbaaGreatDoor
open Go Go.AV Go.M
attribute [local irreducible] OpW OpA OpS AWP FSpec ESpec GSpec OpE RetOk RetOkG RvDen Le Ev GuardIs SrcIs Int.tmod Int.tdiv IntKind.wrap
end Go.Proofs.YtmlmmgeadombbaaGreatDoor

set_option linter.unusedVariables false
set_option linter.unusedSimpArgs false
set_option maxRecDepth 100000
namespace Go.M
open Go.AV
end Go.M
namespace Go.Proofs.YtmlmmgeadombbaaGreatDoor
open Go Go.AV Go.M
attribute [local irreducible] OpW OpA OpS AWP FSpec ESpec GSpec OpE RetOk RetOkG RvDen Le Ev GuardIs SrcIs Int.tmod Int.tdiv IntKind.wrap
end Go.Proofs.YtmlmmgeadombbaaGreatDoor

set_option linter.unusedVariables false
set_option linter.unusedSimpArgs false
namespace Go.M
open Go.AV
structure TCur where
  p : Nat
  seed : Int
def bytesI (l : List Int) : AV := AV.list 1 (l.map fun x => [AV.ik .u8 x])
def curC (code : List Int) (c : TCur) : List AV := [bytesI code, AV.int c.p, AV.ik .u64 c.seed]
def ByteL (code : List Int) : Prop := ∀ x ∈ code, 0 ≤ x ∧ x ≤ 255
theorem byteL_of {l : List Int} (h : ∀ x ∈ l, (Lit.int .u8 x).wf = true) : ByteL l := fun x hx => by
  have := h x hx
  simp only [Lit.wf, IntKind.min, IntKind.max, IntKind.signed, IntKind.bits] at this
  simp at this
  omega
theorem wrapS {x : Int} (h : 0 ≤ x ∧ x ≤ 255) : IntKind.i64.wrap x = x := in64 (by omega)
theorem bandI_255 (x : Int) : 0 ≤ bandI x 255 ∧ bandI x 255 ≤ 255 := by
  unfold bandI
  have h1 : (BitVec.ofInt IntKind.u64.bits x &&& BitVec.ofInt IntKind.u64.bits 255).toNat ≤ 255 := by
    rw [BitVec.toNat_and]
    exact Nat.le_trans Nat.and_le_right (by decide)
  generalize (BitVec.ofInt IntKind.u64.bits x &&& BitVec.ofInt IntKind.u64.bits 255).toNat = n at h1
  unfold IntKind.wrap
  simp [IntKind.bits, IntKind.signed]
  omega
def bigB (code more : List Int) : Bool := decide ((1048576 : Int) < code.length) || decide ((1048576 : Int) - code.length < more.length)
end Go.M

set_option linter.unusedVariables false
set_option linter.unusedSimpArgs false
set_option maxRecDepth 100000
namespace Go.Proofs.YtmlmmgeadombbaaGreatDoor
open Go Go.AV Go.M
attribute [local irreducible] OpW OpA OpS AWP FSpec ESpec GSpec OpE RetOk RetOkG RvDen Le Ev GuardIs SrcIs Int.tmod IntKind.wrap bandI
theorem curNext_own (b : Nat) (code : List Int) (hcode : ByteL code) (c : TCur) (hp : c.p ≤ 8000000) : GSpec Tryz.prog 129 [AV.ptr b 0] [.box b 61 (curC code c)] (fun x : TCur × Int => x.1.p ≤ c.p + 1 ∧ 0 ≤ x.2 ∧ x.2 ≤ 255) (fun x => [.box b 61 (curC code x.1)]) (fun x => AV.int x.2) := by
  have hcb := hcode
  refine gspec_of_awp Tryz.func129 rfl Tryz.ntmps129 rfl ?_
  refine awp_seq ?_
  refine awp_region ?_
  refine sq_plain rfl rfl rfl (w_assign rfl ev_ci) ?_
  refine sq_nil ?_
  refine awp_seq ?_
  refine awp_region ?_
  try rw [wrapS hzb]
  refine sq_plain rfl rfl rfl (w_assign rfl ev_ci) ?_
  refine sq_nil ?_
  refine awp_seq ?_
  refine awp_seq ?_
  refine awp_region_any (by kernel_rfl) (by kernel_rfl) rfl ?_
  refine ch_plain rfl rfl (w_move rfl (ev_tmp rfl)) ?_
  refine ch_plain rfl rfl (w_nilB rfl (ev_tmp rfl)) ?_
  refine ch_plain rfl rfl (w_fldBn 1 rfl Tryz.underlying61 rfl Tryz.sizeOf3 (ev_tmp rfl) rfl) ?_
  refine ch_plain rfl rfl (w_loadB1 0 rfl (ev_tmp rfl) rfl Tryz.isAgg3 rfl) ?_
  refine ch_plain rfl rfl (w_move rfl (ev_tmp rfl)) ?_
  refine ch_plain rfl rfl (w_nilB rfl (ev_tmp rfl)) ?_
  refine ch_plain rfl rfl (w_fldBn 0 rfl Tryz.underlying61 rfl Tryz.sizeOf22 (ev_tmp rfl) rfl) ?_
  refine ch_plain rfl rfl (w_loadB1 0 rfl (ev_tmp rfl) rfl Tryz.isAgg22 rfl) ?_
  refine ch_plain rfl rfl (w_llen rfl Tryz.underlying22 (ev_tmp rfl)) ?_
  refine ch_plain rfl rfl (w_lss rfl (ev_tmp rfl) (ev_tmp rfl)) ?_
  refine ch_nil ?_
  refine awp_cond (ev_tmp rfl) ?_ ?_
  · intro h13
    have k13 := of_decide_eq_true h13; try simp only [List.length_map] at k13
    obtain ⟨z, hz⟩ := get_some (show c.p < code.length by omega)
    have hzb := hcb z (List.mem_of_getElem? hz)
    refine awp_region_any (by kernel_rfl) (by kernel_rfl) rfl ?_
    refine ch_plain rfl rfl (w_move rfl (ev_tmp rfl)) ?_
    refine ch_plain rfl rfl (w_nilB rfl (ev_tmp rfl)) ?_
    refine ch_plain rfl rfl (w_fldBn 0 rfl Tryz.underlying61 rfl Tryz.sizeOf22 (ev_tmp rfl) rfl) ?_
    refine ch_plain rfl rfl (w_loadB1 0 rfl (ev_tmp rfl) rfl Tryz.isAgg22 rfl) ?_
    refine ch_plain rfl rfl (w_move rfl (ev_tmp rfl)) ?_
    refine ch_plain rfl rfl (w_nilB rfl (ev_tmp rfl)) ?_
    refine ch_plain rfl rfl (w_fldBn 1 rfl Tryz.underlying61 rfl Tryz.sizeOf3 (ev_tmp rfl) rfl) ?_
    refine ch_plain rfl rfl (w_loadB1 0 rfl (ev_tmp rfl) rfl Tryz.isAgg3 rfl) ?_
    refine ch_plain rfl rfl (w_idxm rfl Tryz.underlying22 Tryz.sizeOf5 (ev_tmp rfl) (ev_tmp rfl) hz rfl) ?_
    refine ch_plain rfl rfl (w_loadE1 rfl (ev_tmp rfl) Tryz.isAgg5 rfl) ?_
    refine ch_plain rfl rfl (w_conv rfl (by kernel_rfl) Tryz.underlying3 (ev_tmp rfl)) ?_
    try rw [wrapS hzb]
    refine ch_plain rfl rfl (w_assign rfl (ev_tmp rfl)) ?_
    refine ch_nil ?_
    refine awp_seq ?_
    refine awp_region ?_
    refine sq_plain rfl rfl rfl (w_move rfl (ev_tmp rfl)) ?_
    refine sq_plain rfl rfl rfl (w_nilB rfl (ev_tmp rfl)) ?_
    refine sq_plain rfl rfl rfl (w_fldBn 1 rfl Tryz.underlying61 rfl Tryz.sizeOf3 (ev_tmp rfl) rfl) ?_
    refine sq_plain rfl rfl rfl (w_loadB1 0 rfl (ev_tmp rfl) rfl Tryz.isAgg3 rfl) ?_
    refine sq_plain rfl rfl rfl (w_addi rfl (ev_tmp rfl) ev_ci (by first | omega | ((try simp only [List.length_map, List.length_take, List.length_cons, List.length_nil, chunks_len, szR] at *); omega) | (have hc2 := hc; simp only [Bool.and_eq_true, Bool.or_eq_true, Bool.or_eq_false_iff, Bool.and_eq_false_iff, Bool.not_eq_true', Bool.not_eq_false', decide_eq_true_eq, decide_eq_false_iff_not, beq_iff_eq, bne_iff_ne, List.length_map, List.length_take] at hc2; omega))) ?_
    refine sq_plain rfl rfl rfl (w_nilB rfl (ev_tmp rfl)) ?_
    refine sq_plain rfl rfl rfl (w_fldBn 1 rfl Tryz.underlying61 rfl Tryz.sizeOf3 (ev_tmp rfl) rfl) ?_
    refine sq_storeB1 0 rfl rfl rfl (ev_tmp rfl) (ev_tmp rfl) (as_ik _ _) rfl Tryz.sizeOf3 rfl ?_
    refine sq_nil ?_
    refine awp_seq ?_
    refine awp_region ?_
    refine sq_plain rfl rfl rfl (w_move rfl (ev_tmp rfl)) ?_
    refine sq_plain rfl rfl rfl (w_move rfl (ev_tmp rfl)) ?_
    refine sq_plain rfl rfl rfl (w_nilB rfl (ev_tmp rfl)) ?_
    refine sq_plain rfl rfl rfl (w_fldBn 2 rfl Tryz.underlying61 rfl Tryz.sizeOf59 (ev_tmp rfl) rfl) ?_
    refine sq_plain rfl rfl rfl (w_loadB1 0 rfl (ev_tmp rfl) rfl Tryz.isAgg59 rfl) ?_
    refine sq_plain rfl rfl rfl (w_mul rfl (ev_tmp rfl) ev_ci) ?_
    refine sq_plain rfl rfl rfl (w_move rfl (ev_tmp rfl)) ?_
    refine sq_plain rfl rfl rfl (w_conv rfl (by kernel_rfl) Tryz.underlying59 (ev_tmp rfl)) ?_
    refine sq_plain rfl rfl rfl (w_add rfl (ev_tmp rfl) (ev_tmp rfl)) ?_
    refine sq_plain rfl rfl rfl (w_add rfl (ev_tmp rfl) ev_ci) ?_
    refine sq_plain rfl rfl rfl (w_nilB rfl (ev_tmp rfl)) ?_
    refine sq_plain rfl rfl rfl (w_fldBn 2 rfl Tryz.underlying61 rfl Tryz.sizeOf59 (ev_tmp rfl) rfl) ?_
    refine sq_storeB1 0 rfl rfl rfl (ev_tmp rfl) (ev_tmp rfl) (as_ik _ _) rfl Tryz.sizeOf59 rfl ?_
    refine sq_nil ?_
    refine awp_seq ?_
    refine awp_seq ?_
    refine awp_region_any (by kernel_rfl) (by kernel_rfl) rfl ?_
    refine ch_plain rfl rfl (w_move rfl (ev_tmp rfl)) ?_
    refine ch_plain rfl rfl (w_nilB rfl (ev_tmp rfl)) ?_
    refine ch_plain rfl rfl (w_fldBn 1 rfl Tryz.underlying61 rfl Tryz.sizeOf3 (ev_tmp rfl) rfl) ?_
    refine ch_plain rfl rfl (w_loadB1 0 rfl (ev_tmp rfl) rfl Tryz.isAgg3 rfl) ?_
    refine ch_plain rfl rfl (w_move rfl (ev_tmp rfl)) ?_
    refine ch_plain rfl rfl (w_nilB rfl (ev_tmp rfl)) ?_
    refine ch_plain rfl rfl (w_fldBn 0 rfl Tryz.underlying61 rfl Tryz.sizeOf22 (ev_tmp rfl) rfl) ?_
    refine ch_plain rfl rfl (w_loadB1 0 rfl (ev_tmp rfl) rfl Tryz.isAgg22 rfl) ?_
    refine ch_plain rfl rfl (w_llen rfl Tryz.underlying22 (ev_tmp rfl)) ?_
    refine ch_plain rfl rfl (w_leq rfl (ev_tmp rfl) (ev_tmp rfl)) ?_
    refine ch_nil ?_
    refine awp_cond (ev_tmp rfl) ?_ ?_
    · intro h53
      have k53 := of_decide_eq_true h53; try simp only [List.length_map] at k53
      refine awp_seq ?_
      refine awp_region ?_
      refine sq_plain rfl rfl rfl (w_move rfl (ev_tmp rfl)) ?_
      refine sq_plain rfl rfl rfl (w_assign rfl (ev_tmp rfl)) ?_
      refine sq_nil ?_
      refine awp_ret ?_
      (refine retG [0] ((⟨c.p + 1, _⟩, _)) ?_ rfl (by first | (dsimp only; rfl) | rfl) (resR rfl (rv_tmp' rfl (by first | rfl | (refine congrArg AV.bool ?_; simp_all; done)))); first | exact ⟨Nat.le_refl _, hzb⟩ | exact ⟨Nat.le_refl _, Int.le_refl 0, (show (0 : Int) ≤ 255 by decide)⟩ | (rw [wrapS (bandI_255 _)]; exact ⟨Nat.le_refl _, bandI_255 _⟩))
    · intro h53
      have k53 := of_decide_eq_false h53; try simp only [List.length_map] at k53
      refine awp_skip ?_
      refine awp_seq ?_
      refine awp_region ?_
      refine sq_plain rfl rfl rfl (w_move rfl (ev_tmp rfl)) ?_
      refine sq_plain rfl rfl rfl (w_nilB rfl (ev_tmp rfl)) ?_
      refine sq_plain rfl rfl rfl (w_fldBn 2 rfl Tryz.underlying61 rfl Tryz.sizeOf59 (ev_tmp rfl) rfl) ?_
      refine sq_plain rfl rfl rfl (w_loadB1 0 rfl (ev_tmp rfl) rfl Tryz.isAgg59 rfl) ?_
      refine sq_plain rfl rfl rfl (w_shr rfl (ev_tmp rfl) ev_ci (by decide) (by decide)) ?_
      refine sq_plain rfl rfl rfl (w_band rfl (ev_tmp rfl) ev_ci) ?_
      refine sq_plain rfl rfl rfl (w_conv rfl (by kernel_rfl) Tryz.underlying3 (ev_tmp rfl)) ?_
      refine sq_plain rfl rfl rfl (w_assign rfl (ev_tmp rfl)) ?_
      refine sq_nil ?_
      refine awp_ret ?_
      (refine retG [0] ((⟨c.p + 1, _⟩, _)) ?_ rfl (by first | (dsimp only; rfl) | rfl) (resR rfl (rv_tmp' rfl (by first | rfl | (refine congrArg AV.bool ?_; simp_all; done)))); first | exact ⟨Nat.le_refl _, hzb⟩ | exact ⟨Nat.le_refl _, Int.le_refl 0, (show (0 : Int) ≤ 255 by decide)⟩ | (rw [wrapS (bandI_255 _)]; exact ⟨Nat.le_refl _, bandI_255 _⟩))
  · intro h13
    have k13 := of_decide_eq_false h13; try simp only [List.length_map] at k13
    refine awp_skip ?_
    refine awp_seq ?_
    refine awp_region ?_
    refine sq_plain rfl rfl rfl (w_move rfl (ev_tmp rfl)) ?_
    refine sq_plain rfl rfl rfl (w_nilB rfl (ev_tmp rfl)) ?_
    refine sq_plain rfl rfl rfl (w_fldBn 1 rfl Tryz.underlying61 rfl Tryz.sizeOf3 (ev_tmp rfl) rfl) ?_
    refine sq_plain rfl rfl rfl (w_loadB1 0 rfl (ev_tmp rfl) rfl Tryz.isAgg3 rfl) ?_
    refine sq_plain rfl rfl rfl (w_addi rfl (ev_tmp rfl) ev_ci (by first | omega | ((try simp only [List.length_map, List.length_take, List.length_cons, List.length_nil, chunks_len, szR] at *); omega) | (have hc2 := hc; simp only [Bool.and_eq_true, Bool.or_eq_true, Bool.or_eq_false_iff, Bool.and_eq_false_iff, Bool.not_eq_true', Bool.not_eq_false', decide_eq_true_eq, decide_eq_false_iff_not, beq_iff_eq, bne_iff_ne, List.length_map, List.length_take] at hc2; omega))) ?_
    refine sq_plain rfl rfl rfl (w_nilB rfl (ev_tmp rfl)) ?_
    refine sq_plain rfl rfl rfl (w_fldBn 1 rfl Tryz.underlying61 rfl Tryz.sizeOf3 (ev_tmp rfl) rfl) ?_
    refine sq_storeB1 0 rfl rfl rfl (ev_tmp rfl) (ev_tmp rfl) (as_ik _ _) rfl Tryz.sizeOf3 rfl ?_
    refine sq_nil ?_
    refine awp_seq ?_
    refine awp_region ?_
    refine sq_plain rfl rfl rfl (w_move rfl (ev_tmp rfl)) ?_
    refine sq_plain rfl rfl rfl (w_move rfl (ev_tmp rfl)) ?_
    refine sq_plain rfl rfl rfl (w_nilB rfl (ev_tmp rfl)) ?_
    refine sq_plain rfl rfl rfl (w_fldBn 2 rfl Tryz.underlying61 rfl Tryz.sizeOf59 (ev_tmp rfl) rfl) ?_
    refine sq_plain rfl rfl rfl (w_loadB1 0 rfl (ev_tmp rfl) rfl Tryz.isAgg59 rfl) ?_
    refine sq_plain rfl rfl rfl (w_mul rfl (ev_tmp rfl) ev_ci) ?_
    refine sq_plain rfl rfl rfl (w_move rfl (ev_tmp rfl)) ?_
    refine sq_plain rfl rfl rfl (w_conv rfl (by kernel_rfl) Tryz.underlying59 (ev_tmp rfl)) ?_
    refine sq_plain rfl rfl rfl (w_add rfl (ev_tmp rfl) (ev_tmp rfl)) ?_
    refine sq_plain rfl rfl rfl (w_add rfl (ev_tmp rfl) ev_ci) ?_
    refine sq_plain rfl rfl rfl (w_nilB rfl (ev_tmp rfl)) ?_
    refine sq_plain rfl rfl rfl (w_fldBn 2 rfl Tryz.underlying61 rfl Tryz.sizeOf59 (ev_tmp rfl) rfl) ?_
    refine sq_storeB1 0 rfl rfl rfl (ev_tmp rfl) (ev_tmp rfl) (as_ik _ _) rfl Tryz.sizeOf59 rfl ?_
    refine sq_nil ?_
    refine awp_seq ?_
    refine awp_seq ?_
    refine awp_region_any (by kernel_rfl) (by kernel_rfl) rfl ?_
    refine ch_plain rfl rfl (w_move rfl (ev_tmp rfl)) ?_
    refine ch_plain rfl rfl (w_nilB rfl (ev_tmp rfl)) ?_
    refine ch_plain rfl rfl (w_fldBn 1 rfl Tryz.underlying61 rfl Tryz.sizeOf3 (ev_tmp rfl) rfl) ?_
    refine ch_plain rfl rfl (w_loadB1 0 rfl (ev_tmp rfl) rfl Tryz.isAgg3 rfl) ?_
    refine ch_plain rfl rfl (w_move rfl (ev_tmp rfl)) ?_
    refine ch_plain rfl rfl (w_nilB rfl (ev_tmp rfl)) ?_
    refine ch_plain rfl rfl (w_fldBn 0 rfl Tryz.underlying61 rfl Tryz.sizeOf22 (ev_tmp rfl) rfl) ?_
    refine ch_plain rfl rfl (w_loadB1 0 rfl (ev_tmp rfl) rfl Tryz.isAgg22 rfl) ?_
    refine ch_plain rfl rfl (w_llen rfl Tryz.underlying22 (ev_tmp rfl)) ?_
    refine ch_plain rfl rfl (w_leq rfl (ev_tmp rfl) (ev_tmp rfl)) ?_
    refine ch_nil ?_
    refine awp_cond (ev_tmp rfl) ?_ ?_
    · intro h53
      have k53 := of_decide_eq_true h53; try simp only [List.length_map] at k53
      refine awp_seq ?_
      refine awp_region ?_
      refine sq_plain rfl rfl rfl (w_move rfl (ev_tmp rfl)) ?_
      refine sq_plain rfl rfl rfl (w_assign rfl (ev_tmp rfl)) ?_
      refine sq_nil ?_
      refine awp_ret ?_
      (refine retG [0] ((⟨c.p + 1, _⟩, _)) ?_ rfl (by first | (dsimp only; rfl) | rfl) (resR rfl (rv_tmp' rfl (by first | rfl | (refine congrArg AV.bool ?_; simp_all; done)))); first | exact ⟨Nat.le_refl _, hzb⟩ | exact ⟨Nat.le_refl _, Int.le_refl 0, (show (0 : Int) ≤ 255 by decide)⟩ | (rw [wrapS (bandI_255 _)]; exact ⟨Nat.le_refl _, bandI_255 _⟩))
    · intro h53
      have k53 := of_decide_eq_false h53; try simp only [List.length_map] at k53
      refine awp_skip ?_
      refine awp_seq ?_
      refine awp_region ?_
      refine sq_plain rfl rfl rfl (w_move rfl (ev_tmp rfl)) ?_
      refine sq_plain rfl rfl rfl (w_nilB rfl (ev_tmp rfl)) ?_
      refine sq_plain rfl rfl rfl (w_fldBn 2 rfl Tryz.underlying61 rfl Tryz.sizeOf59 (ev_tmp rfl) rfl) ?_
      refine sq_plain rfl rfl rfl (w_loadB1 0 rfl (ev_tmp rfl) rfl Tryz.isAgg59 rfl) ?_
      refine sq_plain rfl rfl rfl (w_shr rfl (ev_tmp rfl) ev_ci (by decide) (by decide)) ?_
      refine sq_plain rfl rfl rfl (w_band rfl (ev_tmp rfl) ev_ci) ?_
      refine sq_plain rfl rfl rfl (w_conv rfl (by kernel_rfl) Tryz.underlying3 (ev_tmp rfl)) ?_
      refine sq_plain rfl rfl rfl (w_assign rfl (ev_tmp rfl)) ?_
      refine sq_nil ?_
      refine awp_ret ?_
      (refine retG [0] ((⟨c.p + 1, _⟩, _)) ?_ rfl (by first | (dsimp only; rfl) | rfl) (resR rfl (rv_tmp' rfl (by first | rfl | (refine congrArg AV.bool ?_; simp_all; done)))); first | exact ⟨Nat.le_refl _, hzb⟩ | exact ⟨Nat.le_refl _, Int.le_refl 0, (show (0 : Int) ≤ 255 by decide)⟩ | (rw [wrapS (bandI_255 _)]; exact ⟨Nat.le_refl _, bandI_255 _⟩))
theorem curPick_own (b : Nat) (code : List Int) (hcode : ByteL code) (c : TCur) (n : Int) (hn : n ≤ 1000000) (hp : c.p ≤ 7000000) : GSpec Tryz.prog 77 [AV.ptr b 0, AV.int n] [.box b 61 (curC code c)] (fun x : TCur × Int => x.1.p ≤ c.p + 2 ∧ 0 ≤ x.2 ∧ (x.2 < n ∨ x.2 = 0)) (fun x => [.box b 61 (curC code x.1)]) (fun x => AV.int x.2) := by
  refine gspec_of_awp Tryz.func77 rfl Tryz.ntmps77 rfl ?_
  refine awp_seq ?_
  refine awp_region ?_
  refine sq_plain rfl rfl rfl (w_assign rfl ev_ci) ?_
  refine sq_nil ?_
  refine awp_seq ?_
  refine awp_seq ?_
  refine awp_region ?_
  refine sq_plain rfl rfl rfl (w_move rfl (ev_tmp rfl)) ?_
  refine sq_plain rfl rfl rfl (w_leq rfl (ev_tmp rfl) ev_ci) ?_
  refine sq_nil ?_
  refine awp_cond (ev_tmp rfl) ?_ ?_
  · intro h7
    have k7 := of_decide_eq_true h7; try simp only [List.length_map] at k7
    refine awp_seq ?_
    refine awp_region ?_
    refine sq_plain rfl rfl rfl (w_assign rfl ev_ci) ?_
    refine sq_nil ?_
    refine awp_ret ?_
    (refine retG [0] ((_, _)) ?_ rfl (by first | (dsimp only; rfl) | rfl) (resR rfl (rv_tmp' rfl (by first | rfl | (refine congrArg AV.bool ?_; simp_all; done)))); (dsimp only; first | omega | exact ⟨by omega, Int.tmod_nonneg _ (by omega), .inl (Int.tmod_lt_of_pos _ (by omega))⟩))
  · intro h7
    have k7 := of_decide_eq_false h7; try simp only [List.length_map] at k7
    refine awp_skip ?_
    refine awp_seq ?_
    refine awp_region ?_
    refine sq_plain rfl rfl rfl (w_move rfl (ev_tmp rfl)) ?_
    refine sq_callG [0] rfl rfl rfl rfl Tryz.call129 rfl (curNext_own _ _ hcode _ (by omega)) (evl_cons (ev_tmp rfl) evl_nil) rfl ?_
    intro x9 ok9
    refine sq_plain rfl rfl rfl (w_assign rfl (ev_tmp rfl)) ?_
    refine sq_nil ?_
    refine awp_seq ?_
    refine awp_seq ?_
    refine awp_region ?_
    refine sq_plain rfl rfl rfl (w_move rfl (ev_tmp rfl)) ?_
    refine sq_plain rfl rfl rfl (w_gtr rfl (ev_tmp rfl) ev_ci) ?_
    refine sq_nil ?_
    refine awp_cond (ev_tmp rfl) ?_ ?_
    · intro h11
      have k11 := of_decide_eq_true h11; try simp only [List.length_map] at k11
      refine awp_region ?_
      refine sq_plain rfl rfl rfl (w_move rfl (ev_tmp rfl)) ?_
      refine sq_plain rfl rfl rfl (w_muli rfl (ev_tmp rfl) ev_ci (by first | omega | ((try simp only [List.length_map, List.length_take, List.length_cons, List.length_nil, chunks_len, szR] at *); omega) | (have hc2 := hc; simp only [Bool.and_eq_true, Bool.or_eq_true, Bool.or_eq_false_iff, Bool.and_eq_false_iff, Bool.not_eq_true', Bool.not_eq_false', decide_eq_true_eq, decide_eq_false_iff_not, beq_iff_eq, bne_iff_ne, List.length_map, List.length_take] at hc2; omega))) ?_
      refine sq_plain rfl rfl rfl (w_move rfl (ev_tmp rfl)) ?_
      refine sq_callG [0] rfl rfl rfl rfl Tryz.call129 rfl (curNext_own _ _ hcode _ (by omega)) (evl_cons (ev_tmp rfl) evl_nil) rfl ?_
      intro x15 ok15
      refine sq_plain rfl rfl rfl (w_addi rfl (ev_tmp rfl) (ev_tmp rfl) (by first | omega | ((try simp only [List.length_map, List.length_take, List.length_cons, List.length_nil, chunks_len, szR] at *); omega) | (have hc2 := hc; simp only [Bool.and_eq_true, Bool.or_eq_true, Bool.or_eq_false_iff, Bool.and_eq_false_iff, Bool.not_eq_true', Bool.not_eq_false', decide_eq_true_eq, decide_eq_false_iff_not, beq_iff_eq, bne_iff_ne, List.length_map, List.length_take] at hc2; omega))) ?_
      refine sq_plain rfl rfl rfl (w_assign rfl (ev_tmp rfl)) ?_
      refine sq_nil ?_
      refine awp_seq ?_
      refine awp_region ?_
      refine sq_plain rfl rfl rfl (w_move rfl (ev_tmp rfl)) ?_
      refine sq_plain rfl rfl rfl (w_move rfl (ev_tmp rfl)) ?_
      refine sq_plain rfl rfl rfl (w_rem rfl (ev_tmp rfl) (ev_tmp rfl) (by omega)) ?_
      refine sq_plain rfl rfl rfl (w_assign rfl (ev_tmp rfl)) ?_
      refine sq_nil ?_
      refine awp_ret ?_
      (refine retG [0] ((_, _)) ?_ rfl (by first | (dsimp only; rfl) | rfl) (resR rfl (rv_tmp' rfl (by first | rfl | (refine congrArg AV.bool ?_; simp_all; done)))); (dsimp only; first | omega | exact ⟨by omega, Int.tmod_nonneg _ (by omega), .inl (Int.tmod_lt_of_pos _ (by omega))⟩))
    · intro h11
      have k11 := of_decide_eq_false h11; try simp only [List.length_map] at k11
      refine awp_skip ?_
      refine awp_seq ?_
      refine awp_region ?_
      refine sq_plain rfl rfl rfl (w_move rfl (ev_tmp rfl)) ?_
      refine sq_plain rfl rfl rfl (w_move rfl (ev_tmp rfl)) ?_
      refine sq_plain rfl rfl rfl (w_rem rfl (ev_tmp rfl) (ev_tmp rfl) (by omega)) ?_
      refine sq_plain rfl rfl rfl (w_assign rfl (ev_tmp rfl)) ?_
      refine sq_nil ?_
      refine awp_ret ?_
      (refine retG [0] ((_, _)) ?_ rfl (by first | (dsimp only; rfl) | rfl) (resR rfl (rv_tmp' rfl (by first | rfl | (refine congrArg AV.bool ?_; simp_all; done)))); (dsimp only; first | omega | exact ⟨by omega, Int.tmod_nonneg _ (by omega), .inl (Int.tmod_lt_of_pos _ (by omega))⟩))
theorem curOne_own (b : Nat) (code : List Int) (hcode : ByteL code) (c : TCur) (n : Int) (hn : n ≤ 1000000) (hp : c.p ≤ 7000000) : GSpec Tryz.prog 48 [AV.ptr b 0, AV.int n] [.box b 61 (curC code c)] (fun x : TCur × Bool => x.1.p ≤ c.p + 2) (fun x => [.box b 61 (curC code x.1)]) (fun x => AV.bool x.2) := by
  refine gspec_of_awp Tryz.func48 rfl Tryz.ntmps48 rfl ?_
  refine awp_seq ?_
  refine awp_region ?_
  refine sq_plain rfl rfl rfl (w_assign rfl ev_cb) ?_
  refine sq_nil ?_
  refine awp_seq ?_
  refine awp_region ?_
  refine sq_plain rfl rfl rfl (w_move rfl (ev_tmp rfl)) ?_
  refine sq_plain rfl rfl rfl (w_move rfl (ev_tmp rfl)) ?_
  refine sq_callG [0] rfl rfl rfl rfl Tryz.call77 rfl (curPick_own _ _ hcode _ _ (by omega) (by omega)) (evl_cons (ev_tmp rfl) (evl_cons (ev_tmp rfl) evl_nil)) rfl ?_
  intro x7 ok7
  refine sq_plain rfl rfl rfl (w_eql rfl (ev_tmp rfl) ev_ci) ?_
  refine sq_plain rfl rfl rfl (w_assign rfl (ev_tmp rfl)) ?_
  refine sq_nil ?_
  refine awp_ret ?_
  (refine retG [0] ((_, _)) ?_ rfl (by first | (dsimp only; rfl) | rfl) (resR rfl (rv_tmp' rfl (by rfl))); exact ok7.1)
theorem curOf_own (b : Nat) (code : List Int) (hcode : ByteL code) (c : TCur) (l : List Str) (hl : (∀ s ∈ l, s.length ≤ 64) ∧ 1 ≤ l.length ∧ l.length ≤ 1000) (hp : c.p ≤ 7000000) : GSpec Tryz.prog 52 [AV.ptr b 0, strs l] [.box b 61 (curC code c)] (fun x : TCur × Str => x.1.p ≤ c.p + 2 ∧ x.2.length ≤ 64) (fun x => [.box b 61 (curC code x.1)]) (fun x => AV.str x.2) := by
  obtain ⟨hls, hl1, hl2⟩ := hl
  refine gspec_of_awp Tryz.func52 rfl Tryz.ntmps52 rfl ?_
  refine awp_seq ?_
  refine awp_region ?_
  refine sq_plain rfl rfl rfl (w_assign rfl (ev_cs' (l := []) rfl)) ?_
  refine sq_nil ?_
  refine awp_seq ?_
  refine awp_region ?_
  refine sq_plain rfl rfl rfl (w_move rfl (ev_tmp rfl)) ?_
  refine sq_plain rfl rfl rfl (w_move rfl (ev_tmp rfl)) ?_
  refine sq_plain rfl rfl rfl (w_move rfl (ev_tmp rfl)) ?_
  refine sq_plain rfl rfl rfl (w_llen rfl Tryz.underlying34 (ev_tmp rfl)) ?_
  refine sq_callG [0] rfl rfl rfl rfl Tryz.call77 rfl (curPick_own _ _ hcode _ _ (by simp only [List.length_map]; omega) (by omega)) (evl_cons (ev_tmp rfl) (evl_cons (ev_tmp rfl) evl_nil)) rfl ?_
  intro x9 ok9
  simp only [List.length_map] at ok9
  obtain ⟨y, hy⟩ := get_some (show x9.2.toNat < l.length by omega)
  refine sq_plain rfl rfl rfl (w_idxm rfl Tryz.underlying34 Tryz.sizeOf9 (ev_tmp rfl) (ev_tmp rfl) hy (by omega)) ?_
  refine sq_plain rfl rfl rfl (w_loadE1 rfl (ev_tmp rfl) Tryz.isAgg9 rfl) ?_
  refine sq_plain rfl rfl rfl (w_assign rfl (ev_tmp rfl)) ?_
  refine sq_nil ?_
  refine awp_ret ?_
  (refine retG [0] ((_, _)) ?_ rfl (by first | (dsimp only; rfl) | rfl) (resR rfl (rv_tmp' rfl (by rfl))); exact ⟨ok9.1, hls _ (List.mem_of_getElem? hy)⟩)
theorem curAmong_own (b : Nat) (code : List Int) (hcode : ByteL code) (c : TCur) (l : List Int) (hl : 1 ≤ l.length ∧ l.length ≤ 1000) (hp : c.p ≤ 7000000) : GSpec Tryz.prog 132 [AV.ptr b 0, ints l] [.box b 61 (curC code c)] (fun x : TCur × Int => x.1.p ≤ c.p + 2 ∧ x.2 ∈ l) (fun x => [.box b 61 (curC code x.1)]) (fun x => AV.int x.2) := by
  obtain ⟨hl1, hl2⟩ := hl
  refine gspec_of_awp Tryz.func132 rfl Tryz.ntmps132 rfl ?_
  refine awp_seq ?_
  refine awp_region ?_
  refine sq_plain rfl rfl rfl (w_assign rfl ev_ci) ?_
  refine sq_nil ?_
  refine awp_seq ?_
  refine awp_region ?_
  refine sq_plain rfl rfl rfl (w_move rfl (ev_tmp rfl)) ?_
  refine sq_plain rfl rfl rfl (w_move rfl (ev_tmp rfl)) ?_
  refine sq_plain rfl rfl rfl (w_move rfl (ev_tmp rfl)) ?_
  refine sq_plain rfl rfl rfl (w_llen rfl Tryz.underlying113 (ev_tmp rfl)) ?_
  refine sq_callG [0] rfl rfl rfl rfl Tryz.call77 rfl (curPick_own _ _ hcode _ _ (by simp only [List.length_map]; omega) (by omega)) (evl_cons (ev_tmp rfl) (evl_cons (ev_tmp rfl) evl_nil)) rfl ?_
  intro x9 ok9
  simp only [List.length_map] at ok9
  obtain ⟨y, hy⟩ := get_some (show x9.2.toNat < l.length by omega)
  refine sq_plain rfl rfl rfl (w_idxm rfl Tryz.underlying113 Tryz.sizeOf3 (ev_tmp rfl) (ev_tmp rfl) hy (by omega)) ?_
  refine sq_plain rfl rfl rfl (w_loadE1 rfl (ev_tmp rfl) Tryz.isAgg3 rfl) ?_
  refine sq_plain rfl rfl rfl (w_assign rfl (ev_tmp rfl)) ?_
  refine sq_nil ?_
  refine awp_ret ?_
  (refine retG [0] ((_, _)) ?_ rfl (by first | (dsimp only; rfl) | rfl) (resR rfl (rv_tmp' rfl (by rfl))); exact ⟨ok9.1, List.mem_of_getElem? hy⟩)
theorem curKey_own (b : Nat) (code : List Int) (hcode : ByteL code) (c : TCur) (hp : c.p ≤ 6000000) : GSpec Tryz.prog 127 [AV.ptr b 0] [.box b 61 (curC code c)] (fun x : TCur × Str => x.1.p ≤ c.p + 2 ∧ x.2.length ≤ 64) (fun x => [.box b 61 (curC code x.1)]) (fun x => AV.str x.2) := by
  refine gspec_of_awp Tryz.func127 rfl Tryz.ntmps127 rfl ?_
  refine awp_seq ?_
  refine awp_region ?_
  refine sq_plain rfl rfl rfl (w_assign rfl (ev_cs' (l := []) rfl)) ?_
  refine sq_nil ?_
  refine awp_seq ?_
  refine awp_region ?_
  refine sq_plain rfl rfl rfl (w_move rfl (ev_tmp rfl)) ?_
  refine sq_plain rfl rfl rfl (w_bslice rfl Tryz.underlying34 Tryz.sizeOf9 Tryz.zeroValue9 rfl rfl rfl rfl (bp_cons (ev_cs' (l := [97]) rfl) (as_str _) (bp_cons (ev_cs' (l := [98]) rfl) (as_str _) (bp_cons (ev_cs' (l := [99]) rfl) (as_str _) (bp_cons (ev_cs' (l := [109]) rfl) (as_str _) (bp_cons (ev_cs' (l := [110]) rfl) (as_str _) (bp_cons (ev_cs' (l := [122]) rfl) (as_str _) (bp_cons (ev_cs' (l := [114, 47, 49]) rfl) (as_str _) (bp_cons (ev_cs' (l := [105, 47, 120, 47, 49]) rfl) (as_str _) bp_nil)))))))) rfl rfl) ?_
  refine sq_callG [0] rfl rfl rfl rfl Tryz.call52 rfl (curOf_own _ _ hcode _ ([[97], [98], [99], [109], [110], [122], [114, 47, 49], [105, 47, 120, 47, 49]] : List Str) (by decide) (by omega)) (evl_cons (ev_tmp rfl) (evl_cons (ev_tmp rfl) evl_nil)) rfl ?_
  intro x5 ok5
  refine sq_plain rfl rfl rfl (w_assign rfl (ev_tmp rfl)) ?_
  refine sq_nil ?_
  refine awp_ret ?_
  (refine retG [0] ((_, _)) ?_ rfl (by first | (dsimp only; rfl) | rfl) (resR rfl (rv_tmp' rfl (by rfl))); exact ok5)
end Go.Proofs.YtmlmmgeadombbaaGreatDoor

set_option linter.unusedVariables false
set_option linter.unusedSimpArgs false
set_option maxRecDepth 100000
namespace Go.Proofs.YtmlmmgeadombbaaGreatDoor
open Go Go.AV Go.M
attribute [local irreducible] OpW OpA OpS AWP FSpec ESpec GSpec OpE RetOk RetOkG RvDen Le Ev GuardIs SrcIs
theorem big_spec (code more : List Int) : FSpec Tryz.prog 5 [bytesI code, bytesI more] (AV.bool (bigB code more)) := by
  refine spec_of_awp Tryz.func5 rfl Tryz.ntmps5 rfl ?_
  refine awp_len (t := 0) rfl fun hl0 => ?_
  try simp only [List.length_map] at hl0
  refine awp_len (t := 1) rfl fun hl1 => ?_
  try simp only [List.length_map] at hl1
  refine awp_seq ?_
  refine awp_region ?_
  refine sq_plain rfl rfl rfl (w_assign rfl ev_cb) ?_
  refine sq_nil ?_
  refine awp_seq ?_
  refine awp_region ?_
  refine sq_plain rfl rfl rfl (w_move rfl (ev_tmp rfl)) ?_
  refine sq_plain rfl rfl rfl (w_llen rfl Tryz.underlying22 (ev_tmp rfl)) ?_
  refine sq_plain rfl rfl rfl (w_gtr rfl (ev_tmp rfl) ev_ci) ?_
  refine sq_plain rfl rfl rfl (w_move rfl (ev_tmp rfl)) ?_
  refine sq_grd rfl rfl (guard_f rfl rfl rfl) (fun hc => w_move rfl (ev_tmp rfl)) ?_
  refine sq_grd rfl rfl (guard_f rfl rfl rfl) (fun hc => w_llen rfl Tryz.underlying22 (ev_whn rfl hc)) ?_
  refine sq_grd rfl rfl (guard_f rfl rfl rfl) (fun hc => w_move rfl (ev_tmp rfl)) ?_
  refine sq_grd rfl rfl (guard_f rfl rfl rfl) (fun hc => w_llen rfl Tryz.underlying22 (ev_whn rfl hc)) ?_
  refine sq_grd rfl rfl (guard_f rfl rfl rfl) (fun hc => w_subi rfl ev_ci (ev_whn rfl hc) (by simp only [List.length_map]; omega)) ?_
  refine sq_grd rfl rfl (guard_f rfl rfl rfl) (fun hc => w_gtr rfl (ev_whn rfl hc) (ev_whn rfl hc)) ?_
  refine sq_plain rfl rfl rfl (w_or rfl (ev_tmp rfl) (evif_w rfl)) ?_
  refine sq_plain rfl rfl rfl (w_assign rfl (ev_tmp rfl)) ?_
  refine sq_nil ?_
  refine awp_ret ?_
  exact retR rfl (rv_tmp' rfl (by (refine congrArg AV.bool ?_; unfold bigB; simp only [List.length_map])))
end Go.Proofs.YtmlmmgeadombbaaGreatDoor

set_option linter.unusedVariables false
set_option linter.unusedSimpArgs false
set_option maxRecDepth 100000
namespace Go.Proofs.YtmlmmgeadombbaaGreatDoor
open Go Go.AV Go.M
attribute [local irreducible] OpW OpA OpS AWP FSpec ESpec GSpec OpE RetOk RetOkG RvDen Le Ev GuardIs SrcIs Int.tmod Int.tdiv IntKind.wrap bandI
end Go.Proofs.YtmlmmgeadombbaaGreatDoor

set_option linter.unusedVariables false
set_option linter.unusedSimpArgs false
set_option maxRecDepth 100000
namespace Go.M
open Go.AV
theorem spoil_a (t : Str) (i : Nat) (y : UInt8) : ((t.take i ++ [y]) ++ t.drop i).length = t.length + 1 := by
  simp only [List.length_append, List.length_cons, List.length_nil, List.length_take, List.length_drop]; omega
theorem spoil_b (t : Str) (i : Nat) (y : UInt8) : ((t.take i ++ [y]) ++ t.drop (i + 1)).length ≤ t.length + 1 := by
  simp only [List.length_append, List.length_cons, List.length_nil, List.length_take, List.length_drop]; omega
theorem spoil_c (t : Str) (i : Nat) : (t.take i ++ t.drop (i + 1)).length ≤ t.length + 1 := by
  simp only [List.length_append, List.length_take, List.length_drop]; omega
end Go.M
namespace Go.Proofs.YtmlmmgeadombbaaGreatDoor
open Go Go.AV Go.M
attribute [local irreducible] OpW OpA OpS AWP FSpec ESpec GSpec OpE RetOk RetOkG RvDen Le Ev GuardIs SrcIs Int.tmod Int.tdiv IntKind.wrap bandI
theorem curSpoilt_own (b : Nat) (code : List Int) (hcode : ByteL code) (c : TCur) (t w : Str) (ht : t.length ≤ 500000) (hw : 1 ≤ w.length ∧ w.length ≤ 1000) (hp : c.p ≤ 5000000) : GSpec Tryz.prog 49 [AV.ptr b 0, AV.str t, AV.str w] [.box b 61 (curC code c)] (fun x : TCur × Str => x.1.p ≤ c.p + 20 ∧ x.2.length ≤ t.length + 2) (fun x => [.box b 61 (curC code x.1)]) (fun x => AV.str x.2) := by
  refine gspec_of_awp Tryz.func49 rfl Tryz.ntmps49 rfl ?_
  refine awp_seq ?_
  refine awp_region ?_
  refine sq_plain rfl rfl rfl (w_assign rfl (ev_cs' (l := []) rfl)) ?_
  refine sq_nil ?_
  refine awp_seq ?_
  refine awp_seq ?_
  refine awp_region ?_
  refine sq_plain rfl rfl rfl (w_move rfl (ev_tmp rfl)) ?_
  refine sq_callG [0] rfl rfl rfl rfl Tryz.call77 rfl (curPick_own _ _ hcode _ _ (by omega) (by omega)) (evl_cons (ev_tmp rfl) (evl_cons ev_ci evl_nil)) rfl ?_
  intro x11 ok11
  refine sq_plain rfl rfl rfl (w_addi rfl ev_ci (ev_tmp rfl) (by first | omega | ((try simp only [List.length_map, List.length_take, List.length_cons, List.length_nil, chunks_len, szR] at *); omega) | (have hc2 := hc; simp only [Bool.and_eq_true, Bool.or_eq_true, Bool.or_eq_false_iff, Bool.and_eq_false_iff, Bool.not_eq_true', Bool.not_eq_false', decide_eq_true_eq, decide_eq_false_iff_not, beq_iff_eq, bne_iff_ne, List.length_map, List.length_take] at hc2; omega))) ?_
  refine sq_plain rfl rfl rfl (w_assign rfl (ev_tmp rfl)) ?_
  refine sq_nil ?_
  refine awp_block ?_
  refine awp_loop_i3 [(0, _), (2, _), (6, _)] _ (fun (n : Int) (cc : TCur) (u : Str) => (0 ≤ n ∧ n ≤ 2) ∧ cc.p + 6 * n ≤ c.p + 16 ∧ (u.length : Int) + n ≤ t.length + 2) (fun (n : Int) (cc : TCur) (u : Str) => [.box b 61 (curC code cc)]) (fun (n : Int) (cc : TCur) (u : Str) => [(1, AV.str u), (7, AV.int n)]) (fun (n : Int) (cc : TCur) (u : Str) => n.toNat) (1 + x11.2) (x11.1) (t) ?_ (le_eq (by rfl) ⟨rfl, rfl, rfl, rfl, rfl, trivial⟩) ?_
  · exact ⟨by omega, by omega, by omega⟩
  intro n cc u hinv
  refine awp_seq ?_
  refine awp_seq ?_
  refine awp_region ?_
  refine sq_plain rfl rfl rfl (w_move rfl (ev_tmp rfl)) ?_
  refine sq_plain rfl rfl rfl (w_gtr rfl (ev_tmp rfl) ev_ci) ?_
  refine sq_plain rfl rfl rfl (w_move rfl (ev_tmp rfl)) ?_
  refine sq_grd rfl rfl (guard_t rfl rfl rfl) (fun hc => w_move rfl (ev_tmp rfl)) ?_
  refine sq_grd rfl rfl (guard_t rfl rfl rfl) (fun hc => w_slen rfl Tryz.underlying9 (ev_whn rfl hc)) ?_
  refine sq_grd rfl rfl (guard_t rfl rfl rfl) (fun hc => w_gtr rfl (ev_whn rfl hc) ev_ci) ?_
  refine sq_plain rfl rfl rfl (w_and rfl (ev_tmp rfl) (evif_w rfl)) ?_
  refine sq_nil ?_
  refine awp_cond (ev_tmp rfl) ?_ ?_
  · intro h19
    simp only [Bool.and_eq_true, decide_eq_true_eq] at h19
    obtain ⟨hn0, hu0⟩ := h19
    refine awp_skip ?_
    refine awp_seq ?_
    refine awp_block ?_
    refine awp_seq ?_
    refine awp_region ?_
    refine sq_plain rfl rfl rfl (w_move rfl (ev_tmp rfl)) ?_
    refine sq_plain rfl rfl rfl (w_move rfl (ev_tmp rfl)) ?_
    refine sq_plain rfl rfl rfl (w_slen rfl Tryz.underlying9 (ev_tmp rfl)) ?_
    refine sq_callG [0] rfl rfl rfl rfl Tryz.call77 rfl (curPick_own _ _ hcode _ _ (by omega) (by omega)) (evl_cons (ev_tmp rfl) (evl_cons (ev_tmp rfl) evl_nil)) rfl ?_
    intro x25 ok25
    refine sq_plain rfl rfl rfl (w_assign rfl (ev_tmp rfl)) ?_
    refine sq_nil ?_
    refine awp_seq ?_
    refine awp_region ?_
    refine sq_plain rfl rfl rfl (w_move rfl (ev_tmp rfl)) ?_
    refine sq_plain rfl rfl rfl (w_move rfl (ev_tmp rfl)) ?_
    refine sq_plain rfl rfl rfl (w_move rfl (ev_tmp rfl)) ?_
    refine sq_plain rfl rfl rfl (w_slen rfl Tryz.underlying9 (ev_tmp rfl)) ?_
    refine sq_callG [0] rfl rfl rfl rfl Tryz.call77 rfl (curPick_own _ _ hcode _ _ (by omega) (by omega)) (evl_cons (ev_tmp rfl) (evl_cons (ev_tmp rfl) evl_nil)) rfl ?_
    intro x30 ok30
    obtain ⟨y, hy⟩ := get_some (show x30.2.toNat < w.length by omega)
    refine sq_plain rfl rfl rfl (w_sidx rfl Tryz.underlying9 (ev_tmp rfl) (ev_tmp rfl) (by omega) hy) ?_
    refine sq_plain rfl rfl rfl (w_bslice rfl Tryz.underlying22 Tryz.sizeOf5 Tryz.zeroValue5 rfl rfl rfl rfl (bp_cons (ev_tmp rfl) (as_ik _ _) bp_nil) rfl rfl) ?_
    refine sq_plain rfl rfl rfl (w_convB (bs := [y]) rfl Tryz.underlying22 Tryz.underlying5 Tryz.underlying9 (ev_tmp rfl)) ?_
    refine sq_plain rfl rfl rfl (w_assign rfl (ev_tmp rfl)) ?_
    refine sq_nil ?_
    refine awp_seq ?_
    refine awp_region ?_
    refine sq_plain rfl rfl rfl (w_move rfl (ev_tmp rfl)) ?_
    refine sq_callG [0] rfl rfl rfl rfl Tryz.call77 rfl (curPick_own _ _ hcode _ _ (by omega) (by omega)) (evl_cons (ev_tmp rfl) (evl_cons ev_ci evl_nil)) rfl ?_
    intro x35 ok35
    refine sq_nil ?_
    refine awp_block ?_
    refine awp_seq ?_
    refine awp_region ?_
    refine sq_plain rfl rfl rfl (w_eql rfl (ev_tmp rfl) ev_ci) ?_
    refine sq_plain rfl rfl rfl (w_assign rfl (ev_tmp rfl)) ?_
    refine sq_nil ?_
    refine awp_cond (ev_tmp rfl) ?_ ?_
    · intro h44
      have k44 := eq_of_beqt h44; try simp only [List.length_map] at k44
      refine awp_region_any (by kernel_rfl) (by kernel_rfl) rfl ?_
      refine ch_plain rfl rfl (w_move rfl (ev_tmp rfl)) ?_
      refine ch_plain rfl rfl (w_move rfl (ev_tmp rfl)) ?_
      refine ch_plain rfl rfl (w_ssl_hi rfl Tryz.underlying9 (ev_tmp rfl) (ev_tmp rfl) (by first | omega | ((try simp only [List.length_map, List.length_take, List.length_cons, List.length_nil, chunks_len, szR] at *); omega) | (have hc2 := hc; simp only [Bool.and_eq_true, Bool.or_eq_true, Bool.or_eq_false_iff, Bool.and_eq_false_iff, Bool.not_eq_true', Bool.not_eq_false', decide_eq_true_eq, decide_eq_false_iff_not, beq_iff_eq, bne_iff_ne, List.length_map, List.length_take] at hc2; omega)) (by first | omega | ((try simp only [List.length_map, List.length_take, List.length_cons, List.length_nil, chunks_len, szR] at *); omega) | (have hc2 := hc; simp only [Bool.and_eq_true, Bool.or_eq_true, Bool.or_eq_false_iff, Bool.and_eq_false_iff, Bool.not_eq_true', Bool.not_eq_false', decide_eq_true_eq, decide_eq_false_iff_not, beq_iff_eq, bne_iff_ne, List.length_map, List.length_take] at hc2; omega))) ?_
      refine ch_plain rfl rfl (w_move rfl (ev_tmp rfl)) ?_
      refine ch_plain rfl rfl (w_cat rfl (ev_tmp rfl) (ev_tmp rfl) (by first | omega | (simp only [List.length_append, List.length_take, List.length_drop, List.length_cons, List.length_nil]; omega))) ?_
      refine ch_plain rfl rfl (w_move rfl (ev_tmp rfl)) ?_
      refine ch_plain rfl rfl (w_move rfl (ev_tmp rfl)) ?_
      refine ch_plain rfl rfl (w_ssl_lo rfl Tryz.underlying9 (ev_tmp rfl) (ev_tmp rfl) (by first | omega | ((try simp only [List.length_map, List.length_take, List.length_cons, List.length_nil, chunks_len, szR] at *); omega) | (have hc2 := hc; simp only [Bool.and_eq_true, Bool.or_eq_true, Bool.or_eq_false_iff, Bool.and_eq_false_iff, Bool.not_eq_true', Bool.not_eq_false', decide_eq_true_eq, decide_eq_false_iff_not, beq_iff_eq, bne_iff_ne, List.length_map, List.length_take] at hc2; omega)) (by first | omega | ((try simp only [List.length_map, List.length_take, List.length_cons, List.length_nil, chunks_len, szR] at *); omega) | (have hc2 := hc; simp only [Bool.and_eq_true, Bool.or_eq_true, Bool.or_eq_false_iff, Bool.and_eq_false_iff, Bool.not_eq_true', Bool.not_eq_false', decide_eq_true_eq, decide_eq_false_iff_not, beq_iff_eq, bne_iff_ne, List.length_map, List.length_take] at hc2; omega))) ?_
      refine ch_plain rfl rfl (w_cat rfl (ev_tmp rfl) (ev_tmp rfl) (by first | omega | (simp only [List.length_append, List.length_take, List.length_drop, List.length_cons, List.length_nil]; omega))) ?_
      refine ch_plain rfl rfl (w_assign rfl (ev_tmp rfl)) ?_
      refine ch_nil ?_
      refine awp_region ?_
      refine sq_plain rfl rfl rfl (w_move rfl (ev_tmp rfl)) ?_
      refine sq_plain rfl rfl rfl (w_subi rfl (ev_tmp rfl) ev_ci (by first | omega | ((try simp only [List.length_map, List.length_take, List.length_cons, List.length_nil, chunks_len, szR] at *); omega) | (have hc2 := hc; simp only [Bool.and_eq_true, Bool.or_eq_true, Bool.or_eq_false_iff, Bool.and_eq_false_iff, Bool.not_eq_true', Bool.not_eq_false', decide_eq_true_eq, decide_eq_false_iff_not, beq_iff_eq, bne_iff_ne, List.length_map, List.length_take] at hc2; omega))) ?_
      refine sq_plain rfl rfl rfl (w_assign rfl (ev_tmp rfl)) ?_
      refine sq_nil ?_
      refine round_end3 n cc u (n - 1) (x35.1) ((u.take x25.2.toNat ++ [y]) ++ u.drop x25.2.toNat) ?_ ?_ (le_eq (by rfl) ⟨rfl, rfl, rfl, rfl, rfl, trivial⟩)
      · exact ⟨by omega, by omega, by (have := spoil_a u x25.2.toNat y; omega)⟩
      · omega
    · intro h44
      have k44 := ne_of_beqf h44; try simp only [List.length_map] at k44
      refine awp_seq ?_
      refine awp_region ?_
      refine sq_plain rfl rfl rfl (w_eql rfl (ev_tmp rfl) ev_ci) ?_
      refine sq_plain rfl rfl rfl (w_assign rfl (ev_tmp rfl)) ?_
      refine sq_nil ?_
      refine awp_cond (ev_tmp rfl) ?_ ?_
      · intro h55
        have k55 := eq_of_beqt h55; try simp only [List.length_map] at k55
        refine awp_region_any (by kernel_rfl) (by kernel_rfl) rfl ?_
        refine ch_plain rfl rfl (w_move rfl (ev_tmp rfl)) ?_
        refine ch_plain rfl rfl (w_move rfl (ev_tmp rfl)) ?_
        refine ch_plain rfl rfl (w_ssl_hi rfl Tryz.underlying9 (ev_tmp rfl) (ev_tmp rfl) (by first | omega | ((try simp only [List.length_map, List.length_take, List.length_cons, List.length_nil, chunks_len, szR] at *); omega) | (have hc2 := hc; simp only [Bool.and_eq_true, Bool.or_eq_true, Bool.or_eq_false_iff, Bool.and_eq_false_iff, Bool.not_eq_true', Bool.not_eq_false', decide_eq_true_eq, decide_eq_false_iff_not, beq_iff_eq, bne_iff_ne, List.length_map, List.length_take] at hc2; omega)) (by first | omega | ((try simp only [List.length_map, List.length_take, List.length_cons, List.length_nil, chunks_len, szR] at *); omega) | (have hc2 := hc; simp only [Bool.and_eq_true, Bool.or_eq_true, Bool.or_eq_false_iff, Bool.and_eq_false_iff, Bool.not_eq_true', Bool.not_eq_false', decide_eq_true_eq, decide_eq_false_iff_not, beq_iff_eq, bne_iff_ne, List.length_map, List.length_take] at hc2; omega))) ?_
        refine ch_plain rfl rfl (w_move rfl (ev_tmp rfl)) ?_
        refine ch_plain rfl rfl (w_cat rfl (ev_tmp rfl) (ev_tmp rfl) (by first | omega | (simp only [List.length_append, List.length_take, List.length_drop, List.length_cons, List.length_nil]; omega))) ?_
        refine ch_plain rfl rfl (w_move rfl (ev_tmp rfl)) ?_
        refine ch_plain rfl rfl (w_move rfl (ev_tmp rfl)) ?_
        refine ch_plain rfl rfl (w_addi rfl (ev_tmp rfl) ev_ci (by first | omega | ((try simp only [List.length_map, List.length_take, List.length_cons, List.length_nil, chunks_len, szR] at *); omega) | (have hc2 := hc; simp only [Bool.and_eq_true, Bool.or_eq_true, Bool.or_eq_false_iff, Bool.and_eq_false_iff, Bool.not_eq_true', Bool.not_eq_false', decide_eq_true_eq, decide_eq_false_iff_not, beq_iff_eq, bne_iff_ne, List.length_map, List.length_take] at hc2; omega))) ?_
        refine ch_plain rfl rfl (w_ssl_lo rfl Tryz.underlying9 (ev_tmp rfl) (ev_tmp rfl) (by first | omega | ((try simp only [List.length_map, List.length_take, List.length_cons, List.length_nil, chunks_len, szR] at *); omega) | (have hc2 := hc; simp only [Bool.and_eq_true, Bool.or_eq_true, Bool.or_eq_false_iff, Bool.and_eq_false_iff, Bool.not_eq_true', Bool.not_eq_false', decide_eq_true_eq, decide_eq_false_iff_not, beq_iff_eq, bne_iff_ne, List.length_map, List.length_take] at hc2; omega)) (by first | omega | ((try simp only [List.length_map, List.length_take, List.length_cons, List.length_nil, chunks_len, szR] at *); omega) | (have hc2 := hc; simp only [Bool.and_eq_true, Bool.or_eq_true, Bool.or_eq_false_iff, Bool.and_eq_false_iff, Bool.not_eq_true', Bool.not_eq_false', decide_eq_true_eq, decide_eq_false_iff_not, beq_iff_eq, bne_iff_ne, List.length_map, List.length_take] at hc2; omega))) ?_
        refine ch_plain rfl rfl (w_cat rfl (ev_tmp rfl) (ev_tmp rfl) (by first | omega | (simp only [List.length_append, List.length_take, List.length_drop, List.length_cons, List.length_nil]; omega))) ?_
        refine ch_plain rfl rfl (w_assign rfl (ev_tmp rfl)) ?_
        refine ch_nil ?_
        refine awp_region ?_
        refine sq_plain rfl rfl rfl (w_move rfl (ev_tmp rfl)) ?_
        refine sq_plain rfl rfl rfl (w_subi rfl (ev_tmp rfl) ev_ci (by first | omega | ((try simp only [List.length_map, List.length_take, List.length_cons, List.length_nil, chunks_len, szR] at *); omega) | (have hc2 := hc; simp only [Bool.and_eq_true, Bool.or_eq_true, Bool.or_eq_false_iff, Bool.and_eq_false_iff, Bool.not_eq_true', Bool.not_eq_false', decide_eq_true_eq, decide_eq_false_iff_not, beq_iff_eq, bne_iff_ne, List.length_map, List.length_take] at hc2; omega))) ?_
        refine sq_plain rfl rfl rfl (w_assign rfl (ev_tmp rfl)) ?_
        refine sq_nil ?_
        refine round_end3 n cc u (n - 1) (x35.1) ((u.take x25.2.toNat ++ [y]) ++ u.drop (x25.2 + 1).toNat) ?_ ?_ (le_eq (by rfl) ⟨rfl, rfl, rfl, rfl, rfl, trivial⟩)
        · exact ⟨by omega, by omega, by (rw [show (x25.2 + 1).toNat = x25.2.toNat + 1 by omega]; have := spoil_b u x25.2.toNat y; omega)⟩
        · omega
      · intro h55
        have k55 := ne_of_beqf h55; try simp only [List.length_map] at k55
        refine awp_region_any (by kernel_rfl) (by kernel_rfl) rfl ?_
        refine ch_plain rfl rfl (w_move rfl (ev_tmp rfl)) ?_
        refine ch_plain rfl rfl (w_move rfl (ev_tmp rfl)) ?_
        refine ch_plain rfl rfl (w_ssl_hi rfl Tryz.underlying9 (ev_tmp rfl) (ev_tmp rfl) (by first | omega | ((try simp only [List.length_map, List.length_take, List.length_cons, List.length_nil, chunks_len, szR] at *); omega) | (have hc2 := hc; simp only [Bool.and_eq_true, Bool.or_eq_true, Bool.or_eq_false_iff, Bool.and_eq_false_iff, Bool.not_eq_true', Bool.not_eq_false', decide_eq_true_eq, decide_eq_false_iff_not, beq_iff_eq, bne_iff_ne, List.length_map, List.length_take] at hc2; omega)) (by first | omega | ((try simp only [List.length_map, List.length_take, List.length_cons, List.length_nil, chunks_len, szR] at *); omega) | (have hc2 := hc; simp only [Bool.and_eq_true, Bool.or_eq_true, Bool.or_eq_false_iff, Bool.and_eq_false_iff, Bool.not_eq_true', Bool.not_eq_false', decide_eq_true_eq, decide_eq_false_iff_not, beq_iff_eq, bne_iff_ne, List.length_map, List.length_take] at hc2; omega))) ?_
        refine ch_plain rfl rfl (w_move rfl (ev_tmp rfl)) ?_
        refine ch_plain rfl rfl (w_move rfl (ev_tmp rfl)) ?_
        refine ch_plain rfl rfl (w_addi rfl (ev_tmp rfl) ev_ci (by first | omega | ((try simp only [List.length_map, List.length_take, List.length_cons, List.length_nil, chunks_len, szR] at *); omega) | (have hc2 := hc; simp only [Bool.and_eq_true, Bool.or_eq_true, Bool.or_eq_false_iff, Bool.and_eq_false_iff, Bool.not_eq_true', Bool.not_eq_false', decide_eq_true_eq, decide_eq_false_iff_not, beq_iff_eq, bne_iff_ne, List.length_map, List.length_take] at hc2; omega))) ?_
        refine ch_plain rfl rfl (w_ssl_lo rfl Tryz.underlying9 (ev_tmp rfl) (ev_tmp rfl) (by first | omega | ((try simp only [List.length_map, List.length_take, List.length_cons, List.length_nil, chunks_len, szR] at *); omega) | (have hc2 := hc; simp only [Bool.and_eq_true, Bool.or_eq_true, Bool.or_eq_false_iff, Bool.and_eq_false_iff, Bool.not_eq_true', Bool.not_eq_false', decide_eq_true_eq, decide_eq_false_iff_not, beq_iff_eq, bne_iff_ne, List.length_map, List.length_take] at hc2; omega)) (by first | omega | ((try simp only [List.length_map, List.length_take, List.length_cons, List.length_nil, chunks_len, szR] at *); omega) | (have hc2 := hc; simp only [Bool.and_eq_true, Bool.or_eq_true, Bool.or_eq_false_iff, Bool.and_eq_false_iff, Bool.not_eq_true', Bool.not_eq_false', decide_eq_true_eq, decide_eq_false_iff_not, beq_iff_eq, bne_iff_ne, List.length_map, List.length_take] at hc2; omega))) ?_
        refine ch_plain rfl rfl (w_cat rfl (ev_tmp rfl) (ev_tmp rfl) (by first | omega | (simp only [List.length_append, List.length_take, List.length_drop, List.length_cons, List.length_nil]; omega))) ?_
        refine ch_plain rfl rfl (w_assign rfl (ev_tmp rfl)) ?_
        refine ch_nil ?_
        refine awp_region ?_
        refine sq_plain rfl rfl rfl (w_move rfl (ev_tmp rfl)) ?_
        refine sq_plain rfl rfl rfl (w_subi rfl (ev_tmp rfl) ev_ci (by first | omega | ((try simp only [List.length_map, List.length_take, List.length_cons, List.length_nil, chunks_len, szR] at *); omega) | (have hc2 := hc; simp only [Bool.and_eq_true, Bool.or_eq_true, Bool.or_eq_false_iff, Bool.and_eq_false_iff, Bool.not_eq_true', Bool.not_eq_false', decide_eq_true_eq, decide_eq_false_iff_not, beq_iff_eq, bne_iff_ne, List.length_map, List.length_take] at hc2; omega))) ?_
        refine sq_plain rfl rfl rfl (w_assign rfl (ev_tmp rfl)) ?_
        refine sq_nil ?_
        refine round_end3 n cc u (n - 1) (x35.1) (u.take x25.2.toNat ++ u.drop (x25.2 + 1).toNat) ?_ ?_ (le_eq (by rfl) ⟨rfl, rfl, rfl, rfl, rfl, trivial⟩)
        · exact ⟨by omega, by omega, by (rw [show (x25.2 + 1).toNat = x25.2.toNat + 1 by omega]; have := spoil_c u x25.2.toNat; omega)⟩
        · omega
  · intro h19
    refine awp_exit ?_
    refine awp_seq ?_
    refine awp_region ?_
    refine sq_plain rfl rfl rfl (w_move rfl (ev_tmp rfl)) ?_
    refine sq_plain rfl rfl rfl (w_assign rfl (ev_tmp rfl)) ?_
    refine sq_nil ?_
    refine awp_ret ?_
    (refine retG [0] ((cc, u)) ?_ rfl (by first | (dsimp only; rfl) | rfl) (resR rfl (rv_tmp' rfl (by rfl))); exact ⟨show cc.p ≤ _ by omega, show u.length ≤ _ by omega⟩)
end Go.Proofs.YtmlmmgeadombbaaGreatDoor

set_option linter.unusedVariables false
set_option linter.unusedSimpArgs false
set_option maxRecDepth 100000
set_option maxHeartbeats 1000000
namespace Go.Proofs.YtmlmmgeadombbaaGreatDoor
open Go Go.AV Go.M
attribute [local irreducible] OpW OpA OpS AWP FSpec ESpec GSpec OpE RetOk RetOkG RvDen Le Ev GuardIs SrcIs Int.tmod IntKind.wrap bandI
theorem curVal_own (b : Nat) (code : List Int) (hcode : ByteL code) (c : TCur) (hp : c.p ≤ 6000000) : GSpec Tryz.prog 150 [AV.ptr b 0] [.box b 61 (curC code c)] (fun x : TCur × Str => x.1.p ≤ c.p + 2 ∧ x.2.length ≤ 64) (fun x => [.box b 61 (curC code x.1)]) (fun x => AV.str x.2) := by
  refine gspec_of_awp Tryz.func150 rfl Tryz.ntmps150 rfl ?_
  refine awp_seq ?_
  refine awp_region ?_
  refine sq_plain rfl rfl rfl (w_assign rfl (ev_cs' (l := []) rfl)) ?_
  refine sq_nil ?_
  refine awp_seq ?_
  refine awp_region ?_
  refine sq_plain rfl rfl rfl (w_move rfl (ev_tmp rfl)) ?_
  refine sq_plain rfl rfl rfl (w_bslice rfl Tryz.underlying34 Tryz.sizeOf9 Tryz.zeroValue9 rfl rfl rfl rfl (bp_cons (ev_cs' (l := []) rfl) (as_str _) (bp_cons (ev_cs' (l := [49]) rfl) (as_str _) (bp_cons (ev_cs' (l := [55]) rfl) (as_str _) (bp_cons (ev_cs' (l := [49, 48]) rfl) (as_str _) (bp_cons (ev_cs' (l := [45, 51]) rfl) (as_str _) (bp_cons (ev_cs' (l := [120]) rfl) (as_str _) (bp_cons (ev_cs' (l := [97, 44, 98, 95, 99]) rfl) (as_str _) bp_nil))))))) rfl rfl) ?_
  refine sq_callG [0] rfl rfl rfl rfl Tryz.call52 rfl (curOf_own _ _ hcode _ ([[], [49], [55], [49, 48], [45, 51], [120], [97, 44, 98, 95, 99]] : List Str) (by decide) (by omega)) (evl_cons (ev_tmp rfl) (evl_cons (ev_tmp rfl) evl_nil)) rfl ?_
  intro x5 ok5
  refine sq_plain rfl rfl rfl (w_assign rfl (ev_tmp rfl)) ?_
  refine sq_nil ?_
  refine awp_ret ?_
  (refine retG [0] ((_, _)) ?_ rfl (by first | (dsimp only; rfl) | rfl) (resR rfl (rv_tmp' rfl (by rfl))); exact ok5)
end Go.Proofs.YtmlmmgeadombbaaGreatDoor

set_option linter.unusedVariables false
set_option linter.unusedSimpArgs false
namespace Go.M
end Go.M

set_option linter.unusedVariables false
set_option linter.unusedSimpArgs false
namespace Go.M
theorem sizeW_cons {α : Type} (f : α → Nat) (x : α) (b : List α) : sizeL f (x :: b) = f x + 1 + sizeL f b := by
  unfold sizeL; simp only [List.length_cons, List.map_cons, List.sum_cons]; omega
end Go.M

set_option linter.unusedVariables false
set_option linter.unusedSimpArgs false
namespace Go.M
end Go.M

set_option linter.unusedVariables false
set_option linter.unusedSimpArgs false
namespace Go.M
theorem sizeL_le {α : Type} {f : α → Nat} {c : Nat} : ∀ {l : List α}, (∀ x ∈ l, f x ≤ c) → sizeL f l ≤ l.length * (c + 1)
  | [], _ => by simp [sizeL]
  | x :: l, h => by
    rw [sizeW_cons]
    have h1 := h x List.mem_cons_self
    have h2 := sizeL_le (l := l) (f := f) (c := c) fun y hy => h y (List.mem_cons_of_mem _ hy)
    simp only [List.length_cons, Nat.add_mul, Nat.one_mul]; omega
end Go.M

set_option linter.unusedVariables false
set_option linter.unusedSimpArgs false
namespace Go.M
end Go.M

set_option linter.unusedVariables false
set_option linter.unusedSimpArgs false
set_option maxRecDepth 100000
namespace Go.Proofs.YtmlmmgeadombbaaGreatDoor
open Go Go.AV Go.M
attribute [local irreducible] OpW OpA OpS AWP FSpec ESpec RetOk RvDen Le Ev GuardIs
end Go.Proofs.YtmlmmgeadombbaaGreatDoor

set_option linter.unusedVariables false
set_option linter.unusedSimpArgs false
set_option maxRecDepth 100000
namespace Go.Proofs.YtmlmmgeadombbaaGreatDoor
open Go Go.AV Go.M
attribute [local irreducible] OpW OpA OpS AWP FSpec ESpec GSpec OpE RetOk RetOkG RvDen Le Ev GuardIs SrcIs
end Go.Proofs.YtmlmmgeadombbaaGreatDoor

set_option linter.unusedVariables false
set_option linter.unusedSimpArgs false
set_option maxRecDepth 100000
namespace Go.Proofs.YtmlmmgeadombbaaGreatDoor
open Go Go.AV Go.M
attribute [local irreducible] OpW OpA OpS AWP FSpec ESpec GSpec OpE RetOk RetOkG RvDen Le Ev GuardIs
end Go.Proofs.YtmlmmgeadombbaaGreatDoor

set_option linter.unusedVariables false
set_option linter.unusedSimpArgs false
set_option maxRecDepth 100000
namespace Go.Proofs.YtmlmmgeadombbaaGreatDoor
open Go Go.AV Go.M
attribute [local irreducible] OpW OpA OpS AWP FSpec ESpec GSpec OpE RetOk RetOkG RvDen Le Ev GuardIs SrcIs
end Go.Proofs.YtmlmmgeadombbaaGreatDoor

set_option linter.unusedVariables false
set_option linter.unusedSimpArgs false
set_option maxRecDepth 100000
namespace Go.Proofs.YtmlmmgeadombbaaGreatDoor
open Go Go.AV Go.M
attribute [local irreducible] OpW OpA OpS AWP FSpec ESpec GSpec OpE RetOk RetOkG RvDen Le Ev GuardIs SrcIs
end Go.Proofs.YtmlmmgeadombbaaGreatDoor

set_option linter.unusedVariables false
set_option linter.unusedSimpArgs false
set_option maxRecDepth 100000
namespace Go.Proofs.YtmlmmgeadombbaaGreatDoor
open Go Go.AV Go.M
attribute [local irreducible] OpW OpA OpS AWP FSpec ESpec GSpec OpE RetOk RetOkG RvDen Le Ev GuardIs SrcIs
end Go.Proofs.YtmlmmgeadombbaaGreatDoor

set_option linter.unusedVariables false
set_option linter.unusedSimpArgs false
set_option maxRecDepth 100000
namespace Go.Proofs.YtmlmmgeadombbaaGreatDoor
open Go Go.AV Go.M
attribute [local irreducible] OpW OpA OpS AWP FSpec ESpec GSpec OpE RetOk RetOkG RvDen Le Ev GuardIs SrcIs Int.tmod IntKind.wrap bandI
end Go.Proofs.YtmlmmgeadombbaaGreatDoor

set_option linter.unusedVariables false
set_option linter.unusedSimpArgs false
set_option maxRecDepth 100000
set_option maxHeartbeats 1000000
namespace Go.Proofs.YtmlmmgeadombbaaGreatDoor
open Go Go.AV Go.M
attribute [local irreducible] OpW OpA OpS AWP FSpec ESpec GSpec OpE RetOk RetOkG RvDen Le Ev GuardIs SrcIs Int.tmod Int.tdiv IntKind.wrap bandI
end Go.Proofs.YtmlmmgeadombbaaGreatDoor

set_option linter.unusedVariables false
set_option linter.unusedSimpArgs false
set_option maxRecDepth 100000
set_option maxHeartbeats 1000000
namespace Go.M
open Go.AV
end Go.M
namespace Go.Proofs.YtmlmmgeadombbaaGreatDoor
open Go Go.AV Go.M
attribute [local irreducible] OpW OpA OpS AWP FSpec ESpec GSpec OpE RetOk RetOkG RvDen Le Ev GuardIs SrcIs Int.tmod Int.tdiv IntKind.wrap bandI
end Go.Proofs.YtmlmmgeadombbaaGreatDoor

set_option linter.unusedVariables false
set_option linter.unusedSimpArgs false
namespace Go.M
open Go.AV
theorem rd_inv {d : UInt8} : ∀ (s : Str) (m n : Nat), rdFrom m (s ++ [d]) = (n : Int) → ∃ v : Nat, rdFrom m s = (v : Int) ∧ (48 ≤ d.toNat ∧ d.toNat ≤ 57) ∧ n = 10 * v + (d.toNat - 48)
  | [], m, n, h => by
    simp only [List.nil_append, rdFrom] at h
    split at h
    · rename_i hd
      refine ⟨m, rfl, ?_, by omega⟩
      unfold isDig at hd; simp at hd; omega
    · exfalso; omega
  | b :: s, m, n, h => by
    show ∃ v : Nat, (if isDig b = true then rdFrom (10 * m + (b.toNat - 48)) s else -1) = (v : Int) ∧ _
    have h2 : (if isDig b = true then rdFrom (10 * m + (b.toNat - 48)) (s ++ [d]) else -1) = (n : Int) := h
    split at h2
    · rename_i hb
      rw [if_pos hb]
      exact rd_inv s _ n h2
    · exfalso; omega
theorem rd_ge : ∀ (s : Str) (m n : Nat), rdFrom m s = (n : Int) → m ≤ n
  | [], m, n, h => by simp only [rdFrom] at h; omega
  | b :: s, m, n, h => by
    simp only [rdFrom] at h
    split at h
    · have := rd_ge s _ n h; omega
    · exfalso; omega
theorem u8_dig {d : UInt8} (h : 48 ≤ d.toNat ∧ d.toNat ≤ 57) : UInt8.ofNat (48 + (d.toNat - 48)) = d := by
  apply UInt8.toNat_inj.1
  simp; omega
theorem dec_of : ∀ (k : Nat) (s : Str) (n : Nat), s.length = k + 1 → rdFrom 0 s = (n : Int) → (s.head? ≠ some 48 ∨ k = 0) → decD n = s
  | 0, s, n, hl, h, _ => by
    match s, hl with
    | [d], _ =>
      obtain ⟨v, h1, h2, h3⟩ := rd_inv [] 0 n h
      simp only [rdFrom] at h1
      have hv : v = 0 := by omega
      subst hv
      rw [decD_small (by omega), h3, show 48 + (10 * 0 + (d.toNat - 48)) = 48 + (d.toNat - 48) by omega, u8_dig h2]
  | k + 1, s, n, hl, h, hh => by
    have hne : s ≠ [] := by rintro rfl; simp at hl
    obtain ⟨t, d, rfl⟩ : ∃ t d, s = t ++ [d] := ⟨s.dropLast, s.getLast hne, (List.dropLast_concat_getLast hne).symm⟩
    have htl : t.length = k + 1 := by simpa using hl
    obtain ⟨v, h1, h2, h3⟩ := rd_inv t 0 n h
    match t, htl with
    | b :: t', _ =>
      have hb : b ≠ 48 := by
        rcases hh with hh | hh
        · intro e; subst e; simp at hh
        · omega
      have ih := dec_of k (b :: t') v (by assumption) h1 (.inl (by simpa using hb))
      have hv : 1 ≤ v := by
        simp only [rdFrom] at h1
        split at h1
        · rename_i hd
          have h9 := rd_ge t' _ v h1
          have h8 : b.toNat ≠ 48 := fun e => hb (UInt8.toNat_inj.1 e)
          unfold isDig at hd; simp at hd
          omega
        · exfalso; omega
      rw [decD_big (by omega), show n / 10 = v by omega, show n % 10 = d.toNat - 48 by omega, u8_dig h2, ih]
theorem l1R_back {s : Str} (h : 0 ≤ l1R s) : s = decD (l1R s).toNat := by
  unfold l1R at h ⊢
  by_cases hb : l1BadB s = true
  · rw [if_pos hb] at h; omega
  · rw [if_neg hb] at h ⊢
    obtain ⟨n, hn⟩ : ∃ n : Nat, rdFrom 0 s = (n : Int) := ⟨(rdFrom 0 s).toNat, by omega⟩
    rw [hn]
    have hc : within s.length 1 6 = true ∧ ((s.head?.map fun b => b == 48).getD false && decide ((1 : Int) < (s.length : Int))) = false := by
      unfold l1BadB at hb
      simp only [Bool.or_eq_true, not_or, Bool.not_eq_true', Bool.not_eq_false] at hb
      exact ⟨hb.1, by simpa using hb.2⟩
    have hl : 1 ≤ s.length := by have := hc.1; unfold within at this; simp at this; omega
    refine (dec_of (s.length - 1) s n (by omega) hn ?_).symm
    cases s with
    | nil => simp at hl
    | cons b r =>
      by_cases hz : r.length = 0
      · exact .inr (by simpa using hz)
      · left
        have h2 := hc.2
        simp only [List.head?_cons, Option.map_some, Option.getD_some, Bool.and_eq_false_iff, decide_eq_false_iff_not] at h2
        rcases h2 with h2 | h2
        · simpa using h2
        · exfalso; simp at h2; omega
theorem l5N_back {s : Str} {n : Int} (h : l5N s = (n, true)) : s = itoaD n ∧ -999999 ≤ n ∧ n ≤ 999999 := by
  have up : ∀ t : Str, 0 ≤ l1R t → l1R t ≤ 999999 := fun t ht => by
    have e := l1R_back ht
    have hl : t.length ≤ 6 := by
      unfold l1R at ht
      split at ht
      · omega
      · rename_i hb
        unfold l1BadB within at hb
        simp at hb; omega
    rw [e] at hl
    have hnn : l1R t = ((l1R t).toNat : Int) := by omega
    by_cases hb : (l1R t).toNat ≤ 999999
    · omega
    · exfalso
      have : ∀ m : Nat, 10 ^ 6 ≤ m → 7 ≤ (decD m).length := by
        intro m
        have step : ∀ k m : Nat, 10 ^ k ≤ m → k + 1 ≤ (decD m).length := by
          intro k
          induction k with
          | zero => intro m _; have := decD_ne m; cases hd : decD m with | nil => exact absurd hd this | cons b r => simp
          | succ k ih =>
            intro m hm
            have h10 : ¬ m < 10 := by rw [Nat.pow_succ] at hm; have := Nat.one_le_pow k 10 (by decide); omega
            rw [decD_big h10, List.length_append]
            have := ih (m / 10) (by rw [Nat.pow_succ] at hm; omega)
            simp only [List.length_cons, List.length_nil]; omega
        exact step 6 m
      have := this (l1R t).toNat (by omega)
      omega
  unfold l5N at h
  by_cases hh : s.head? = some 45
  · rw [if_pos (c := s.head? = some 45) hh] at h
    split at h
    · cases h
    · rename_i hc
      injection h with h _
      simp only [Bool.or_eq_true, decide_eq_true_eq, Bool.and_eq_true, beq_iff_eq, not_or, not_and] at hc
      have h0 := hc.2 hh
      have h1 : 0 ≤ l1R (s.drop 1) := by omega
      have e := l1R_back h1
      have hu := up _ h1
      cases s with
      | nil => cases hh
      | cons b r =>
        simp at hh; subst hh
        have e2 : r = decD (l1R r).toNat := e
        have h1' : 0 ≤ l1R r := h1
        have h0' : ¬ l1R r = 0 := h0
        have hu' : l1R r ≤ 999999 := hu
        have hn : n = -(((l1R r).toNat : Nat) : Int) := by rw [← h]; show -(l1R r) = _; omega
        refine ⟨?_, by omega, by omega⟩
        rw [hn, itoa_minus (by omega), ← e2]
  · rw [if_neg (c := s.head? = some 45) hh] at h
    split at h
    · cases h
    · rename_i hc
      injection h with h _
      simp only [Bool.or_eq_true, decide_eq_true_eq, not_or] at hc
      have h1 : 0 ≤ l1R s := by omega
      have e := l1R_back h1
      have hu := up _ h1
      have hn : n = (((l1R s).toNat : Nat) : Int) := by omega
      refine ⟨?_, by omega, by omega⟩
      rw [hn, itoa_nat, ← e]
theorem readI_back {s : Str} {n lo hi : Int} (h : readI s lo hi = (n, true)) : s = itoaD n ∧ within n lo hi = true := by
  unfold readI at h
  split at h
  · cases h
  · rename_i hc
    injection h with h _
    simp only [Bool.or_eq_true, not_or, Bool.not_eq_true', Bool.not_eq_false, bne_iff_ne, ne_eq, Decidable.not_not] at hc
    subst h
    exact ⟨hc.2.symm, hc.1.2⟩
theorem readI_fail (s : Str) (lo hi : Int) : (readI s lo hi).2 = false → readI s lo hi = (0, false) := fun h => by
  unfold readI at h ⊢
  split
  · rfl
  · rename_i hc; rw [if_neg hc] at h; cases h
theorem l5N_fail (s : Str) (h : (l5N s).2 = false) : l5N s = (0, false) := by
  unfold l5N at h ⊢
  by_cases hh : s.head? = some 45
  · rw [if_pos (c := s.head? = some 45) hh] at h ⊢
    split
    · rfl
    · rename_i hc; rw [if_neg hc, if_pos hh] at h; cases h
  · rw [if_neg (c := s.head? = some 45) hh] at h ⊢
    split
    · rfl
    · rename_i hc; rw [if_neg hc, if_neg hh] at h; cases h
theorem number_eq (s : Str) : readI s (-999999) 999999 = l5N s := by
  cases h1 : (readI s (-999999) 999999).2 with
  | true =>
    have e : readI s (-999999) 999999 = ((readI s (-999999) 999999).1, true) := by rw [← h1]
    obtain ⟨h2, h3⟩ := readI_back e
    have hw : -999999 ≤ (readI s (-999999) 999999).1 ∧ (readI s (-999999) 999999).1 ≤ 999999 := by unfold within at h3; simpa using h3
    have h4 := l5N_itoa hw
    rw [← h2] at h4
    rw [e, h4]
  | false =>
    cases h2 : (l5N s).2 with
    | true =>
      have e : l5N s = ((l5N s).1, true) := by rw [← h2]
      obtain ⟨h3, h4⟩ := l5N_back e
      have h5 := readI_itoa (n := (l5N s).1) (lo := -999999) (hi := 999999) (by omega) (by unfold within; simp; omega)
      rw [← h3] at h5
      rw [h5] at h1; cases h1
    | false => rw [readI_fail s _ _ h1, l5N_fail s h2]
end Go.M
