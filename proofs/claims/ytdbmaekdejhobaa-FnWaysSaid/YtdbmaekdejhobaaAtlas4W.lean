/- Walks: a map appended. -/
import Derived.Test.YtdbmaekdejhobaaAtlas3W
set_option linter.unusedVariables false
set_option linter.unusedSimpArgs false
set_option maxRecDepth 100000
namespace Go.Proofs.Ytdbmaekdejhobaa
open Go Go.AV Go.M
attribute [local irreducible] OpW OpA OpS AWP FSpec ESpec GSpec OpE RetOk RetOkG RvDen Le Ev GuardIs SrcIs
theorem addMap_own (a : TAtlas) (p : TPlaces) (hs : a.size ≤ 1048576) (hp : p.size ≤ 1048576) : GSpec Try.prog 47 [AV.agg a.cs, AV.agg p.cs] [] (fun x : Value × Value × List (Value × Value) => x.2.2.length = (addMap a p).1.Maps.length) (fun x => TAtlas.ow (addMap a p).1 x) (fun x => AV.tup [AV.agg (TAtlas.ocs (addMap a p).1 x), AV.bool (addMap a p).2]) := by
  have hml : a.Maps.length ≤ 4194304 := Nat.le_trans sizeL_len (show sizeL TPlaces.size a.Maps ≤ 4194304 by unfold TAtlas.size at hs; omega)
  have hlf : goodAtlas a = true → 1 ≤ a.Maps.length ∧ a.Maps[a.Maps.length - 1]? = some (lastM a) ∧ (lastM a).size ≤ 1048576 := fun h => ⟨(atlas_facts h).1, (lastM_good h).1, map_size hs (lastM_good h).1⟩
  have hcg : (!(!goodAtlas a || (((a.Maps.map TPlaces.cs).length : Int) == 12) || !goodPlaces p)) = true → goodAtlas a = true := fun h => by cases hg : goodAtlas a with | true => rfl | false => (rw [hg] at h; simp at h)
  refine gspec_of_awp Try.func47 rfl Try.ntmps47 rfl ?_
  refine awp_seq ?_
  refine awp_region ?_
  refine sq_box rfl rfl rfl rfl (ev_tmp rfl) ?_
  intro b2
  refine sq_box rfl rfl rfl rfl (ev_tmp rfl) ?_
  intro b3
  refine sq_alloc rfl rfl rfl rfl Try.zeroValue74 rfl ?_
  intro b4
  refine sq_plain rfl rfl rfl (w_assign rfl ev_cb) ?_
  refine sq_nil ?_
  refine awp_seq ?_
  refine awp_seq ?_
  refine awp_region_any (by kernel_rfl) (by kernel_rfl) rfl ?_
  refine ch_plain rfl rfl (w_loadA 2 rfl (ev_tmp rfl) rfl Try.isAgg74 Try.sizeOf74 rfl) ?_
  refine ch_plain rfl rfl (w_call rfl Try.call44 rfl (goodAtlas_spec _ (by first | assumption | omega)) (evl_cons (ev_tmp rfl) evl_nil)) ?_
  refine ch_plain rfl rfl (w_not rfl (ev_tmp rfl)) ?_
  refine ch_plain rfl rfl (w_move rfl (ev_tmp rfl)) ?_
  refine ch_grd rfl (guard_f rfl rfl rfl) (fun hc => w_fldBn 0 rfl Try.underlying74 rfl Try.sizeOf72 (ev_tmp rfl) rfl) ?_
  refine ch_grd rfl (guard_f rfl rfl rfl) (fun hc => w_loadB1 2 rfl (ev_whn rfl hc) rfl Try.isAgg72 rfl) ?_
  refine ch_grd rfl (guard_f rfl rfl rfl) (fun hc => w_llen rfl Try.underlying72 (ev_whn rfl hc)) ?_
  refine ch_grd rfl (guard_f rfl rfl rfl) (fun hc => w_eql rfl (ev_whn rfl hc) ev_ci) ?_
  refine ch_plain rfl rfl (w_or rfl (ev_tmp rfl) (evif_w rfl)) ?_
  refine ch_plain rfl rfl (w_move rfl (ev_tmp rfl)) ?_
  refine ch_grd rfl (guard_f rfl rfl rfl) (fun hc => w_loadA 1 rfl (ev_tmp rfl) rfl Try.isAgg57 Try.sizeOf57 rfl) ?_
  refine ch_grd rfl (guard_f rfl rfl rfl) (fun hc => w_call rfl Try.call34 rfl (goodPlaces_spec _ (by first | assumption | omega)) (evl_cons (ev_whn rfl hc) evl_nil)) ?_
  refine ch_grd rfl (guard_f rfl rfl rfl) (fun hc => w_not rfl (ev_whn rfl hc)) ?_
  refine ch_plain rfl rfl (w_or rfl (ev_tmp rfl) (evif_w rfl)) ?_
  refine ch_plain rfl rfl (w_move rfl (ev_tmp rfl)) ?_
  refine ch_grd rfl (guard_f rfl rfl rfl) (fun hc => w_fldBn 0 rfl Try.underlying74 rfl Try.sizeOf72 (ev_tmp rfl) rfl) ?_
  refine ch_grd rfl (guard_f rfl rfl rfl) (fun hc => w_loadB1 2 rfl (ev_whn rfl hc) rfl Try.isAgg72 rfl) ?_
  refine ch_grd rfl (guard_f rfl rfl rfl) (fun hc => w_fldBn 0 rfl Try.underlying74 rfl Try.sizeOf72 (ev_tmp rfl) rfl) ?_
  refine ch_grd rfl (guard_f rfl rfl rfl) (fun hc => w_loadB1 2 rfl (ev_whn rfl hc) rfl Try.isAgg72 rfl) ?_
  refine ch_grd rfl (guard_f rfl rfl rfl) (fun hc => w_llen rfl Try.underlying72 (ev_whn rfl hc)) ?_
  refine ch_grd rfl (guard_f rfl rfl rfl) (fun hc => w_subi rfl (ev_whn rfl hc) ev_ci (by first | omega | ((try simp only [List.length_map, List.length_take, List.length_cons, List.length_nil, chunks_len, szR] at *); omega) | (have hc2 := hc; simp only [Bool.and_eq_true, Bool.or_eq_true, Bool.or_eq_false_iff, Bool.and_eq_false_iff, Bool.not_eq_true', Bool.not_eq_false', decide_eq_true_eq, decide_eq_false_iff_not, beq_iff_eq, bne_iff_ne, List.length_map, List.length_take] at hc2; omega))) ?_
  refine ch_grd rfl (guard_f rfl rfl rfl) (fun hc => w_idx rfl Try.underlying72 Try.sizeOf57 (ev_whn rfl hc) (ev_whn rfl hc) (by have h9 := hlf (hcg hc); simp only [List.length_map]; omega) (by have h9 := hlf (hcg hc); rw [List.getElem?_map, show (((a.Maps.map TPlaces.cs).length : Int) - 1).toNat = a.Maps.length - 1 by simp only [List.length_map]; omega, h9.2.1]; rfl)) ?_
  refine ch_grd rfl (guard_f rfl rfl rfl) (fun hc => w_loadE rfl (ev_whn rfl hc) Try.isAgg57 Try.sizeOf57) ?_
  refine ch_grd rfl (guard_f rfl rfl rfl) (fun hc => w_loadA 1 rfl (ev_tmp rfl) rfl Try.isAgg57 Try.sizeOf57 rfl) ?_
  refine ch_grd rfl (guard_f rfl rfl rfl) (fun hc => w_call rfl Try.call123 rfl (isNext_spec (lastM a) p (Nat.le_trans (hlf (hcg hc)).2.2 (by decide)) (Nat.le_trans hp (by decide))) (evl_cons (ev_whn rfl hc) (evl_cons (ev_whn rfl hc) evl_nil))) ?_
  refine ch_grd rfl (guard_f rfl rfl rfl) (fun hc => w_not rfl (ev_whn rfl hc)) ?_
  refine ch_plain rfl rfl (w_or rfl (ev_tmp rfl) (evif_w rfl)) ?_
  refine ch_nil ?_
  refine awp_cond (ev_tmp rfl) ?_ ?_
  · intro h35
    have he : addMap a p = (⟨[], []⟩, false) := by unfold addMap; rw [if_pos (by simpa only [List.length_map] using h35)]
    rw [he]
    refine awp_seq ?_
    refine awp_region ?_
    refine sq_plain rfl rfl rfl (w_build (places := #[(0, 1), (1, 1)]) rfl Try.underlying74 Try.zeroValue74 (fun w => by kernel_rfl) rfl bp_nil rfl) ?_
    refine sq_storeB0 0 rfl rfl rfl (ev_tmp rfl) (ev_tmp rfl) (as_agg _) rfl Try.sizeOf74 rfl ?_
    refine sq_plain rfl rfl rfl (w_assign rfl ev_cb) ?_
    refine sq_nil ?_
    refine awp_ret ?_
    refine retG_nil 57 3 ?_
    refine retG_nil 3 1 ?_
    first | exact retG [1, 0] ((Value.slice none 0 0), (Value.slice none 0 0), []) (rfl) rfl (by first | rfl | exact congrArg (fun z => Own.arr _ _ _ z :: _) (nrows_snoc ok38)) (resN rfl (by decide) (rv_cons (rv_cell (ys := _) 2 rfl rfl Try.isAgg74 Try.sizeOf74 rfl) (rv_cons (rv_tmp' rfl (by rfl)) rv_nil))) | exact retG [1, 0] ((Value.slice none 0 0), (Value.slice none 0 0), x38.2.2 ++ [x65]) (by rw [List.length_append, List.length_append, ok38]; rfl) rfl (by first | rfl | exact congrArg (fun z => Own.arr _ _ _ z :: _) (nrows_snoc ok38)) (resN rfl (by decide) (rv_cons (rv_cell (ys := _) 2 rfl rfl Try.isAgg74 Try.sizeOf74 rfl) (rv_cons (rv_tmp' rfl (by rfl)) rv_nil)))
  · intro h35
    have h35' := h35
    simp only [List.length_map, Bool.or_eq_false_iff, Bool.not_eq_false'] at h35'
    have hga := h35'.1.1.1
    have hg := atlas_facts hga
    have hgl := lastM_good hga
    have hll := hlf hga
    have hgl2 := hgl.2
    have hgp := h35'.1.2
    have hnx : isNext (lastM a) p = true := h35'.2
    have hcr := changed_range hgl.2 hgp
    have he : addMap a p = (⟨a.Maps ++ [p], setK a.Knows (changed (lastM a) p) a.Maps.length⟩, true) := by unfold addMap; rw [if_neg (by simp only [List.length_map] at h35; rw [h35]; decide)]
    rw [he]
    have hcl := chg_len (lastM a).Groups p.Groups
    have hclen : (changed (lastM a) p).length ≤ 8388608 := by unfold changed; split; (exact Nat.zero_le _); (have := hll.2.2; unfold TPlaces.size at this; omega)
    refine awp_skip ?_
    refine awp_seq ?_
    refine awp_region ?_
    refine sq_plain rfl rfl rfl (w_loadA 2 rfl (ev_tmp rfl) rfl Try.isAgg74 Try.sizeOf74 rfl) ?_
    refine sq_callGT [] 3 2 ([]) ([]) (fun zz => nin TPlaces.ow a.Maps zz.2.2) rfl rfl rfl rfl Try.call129 rfl rfl (show List.Perm ([]) (([]) ++ ([])) from List.Perm.refl _) (copyAtlas_own a hs) (evl_cons (ev_tmp rfl) evl_nil) (fun a => perm_lin) ?_
    intro x38 ok38
    refine sq_alloc rfl rfl rfl rfl Try.zeroValue74 rfl ?_
    intro b6
    refine sq_storeB0 0 rfl rfl rfl (ev_tmp rfl) (ev_tmp rfl) (as_agg _) rfl Try.sizeOf74 rfl ?_
    refine sq_nil ?_
    refine awp_seq ?_
    refine awp_seq ?_
    refine awp_region_any (by kernel_rfl) (by kernel_rfl) rfl ?_
    refine ch_plain rfl rfl (w_fldBn 0 rfl Try.underlying74 rfl Try.sizeOf72 (ev_tmp rfl) rfl) ?_
    refine ch_plain rfl rfl (w_loadB1 5 rfl (ev_tmp rfl) rfl Try.isAgg72 rfl) ?_
    refine ch_plain rfl rfl (w_fldBn 0 rfl Try.underlying74 rfl Try.sizeOf72 (ev_tmp rfl) rfl) ?_
    refine ch_plain rfl rfl (w_loadB1 5 rfl (ev_tmp rfl) rfl Try.isAgg72 rfl) ?_
    refine ch_plain rfl rfl (w_llen rfl Try.underlying72 (ev_tmp rfl)) ?_
    refine ch_plain rfl rfl (w_subi rfl (ev_tmp rfl) ev_ci (by first | omega | ((try simp only [List.length_map, List.length_take, List.length_cons, List.length_nil, chunks_len, szR] at *); omega) | (have hc2 := hc; simp only [Bool.and_eq_true, Bool.or_eq_true, Bool.or_eq_false_iff, Bool.and_eq_false_iff, Bool.not_eq_true', Bool.not_eq_false', decide_eq_true_eq, decide_eq_false_iff_not, beq_iff_eq, bne_iff_ne, List.length_map, List.length_take] at hc2; omega))) ?_
    refine ch_plain rfl rfl (w_idx rfl Try.underlying72 Try.sizeOf57 (ev_tmp rfl) (ev_tmp rfl) (by simp only [List.length_map]; omega) (by rw [List.getElem?_map, show (((a.Maps.map TPlaces.cs).length : Int) - 1).toNat = a.Maps.length - 1 by simp only [List.length_map]; omega, hll.2.1]; rfl)) ?_
    refine ch_plain rfl rfl (w_loadE rfl (ev_tmp rfl) Try.isAgg57 Try.sizeOf57) ?_
    refine ch_plain rfl rfl (w_loadA 4 rfl (ev_tmp rfl) rfl Try.isAgg57 Try.sizeOf57 rfl) ?_
    refine ch_plain rfl rfl (w_call rfl Try.call124 rfl (changed_spec _ _ (by first | assumption | omega) (by first | assumption | omega) (by assumption) (by assumption)) (evl_cons (ev_tmp rfl) (evl_cons (ev_tmp rfl) evl_nil))) ?_
    refine ch_plain rfl rfl (w_llen rfl Try.underlying55 (ev_tmp rfl)) ?_
    refine ch_plain rfl rfl (w_move rfl ev_ci) ?_
    refine ch_nil ?_
    refine awp_block ?_
    refine awp_own (by first | (simp only [TAtlas.ow, pick, List.eraseIdx_cons_zero, List.eraseIdx_cons_succ, List.set_cons_zero, List.set_cons_succ, List.cons_append, List.nil_append, List.getElem?_cons_zero, List.getElem?_cons_succ, List.append_nil, List.take_succ_cons, List.take_zero, List.drop_succ_cons, List.drop_zero]; exact rfl) | exact rfl) ?_
    refine AWP.le (le_pick [2] rfl) ?_
    refine awp_loop_i [(2, _), (3, _), (4, _), (5, _), (6, _), (48, _), (49, _)] _ (fun (j : Nat) => j ≤ (changed (lastM a) p).length) (fun (j : Nat) => [.arr x38.2.1 3 1 ((setK a.Knows ((changed (lastM a) p).take j) a.Maps.length).map fun x => [AV.int x])]) (fun (j : Nat) => [(50, AV.int j)]) (fun (j : Nat) => (changed (lastM a) p).length - j) (0) ?_ (le_eq (by rfl) ⟨rfl, rfl, rfl, rfl, rfl, rfl, rfl, rfl, trivial⟩) ?_
    · exact Nat.zero_le _
    intro j hinv
    refine awp_seq ?_
    refine awp_region ?_
    refine sq_plain rfl rfl rfl (w_lss rfl (ev_tmp rfl) (ev_tmp rfl)) ?_
    refine sq_nil ?_
    refine awp_seq ?_
    refine awp_cond (ev_tmp rfl) ?_ ?_
    · intro h51
      have k51 := of_decide_eq_true h51; try simp only [List.length_map] at k51
      have hlj : j < (changed (lastM a) p).length := by omega
      obtain ⟨u, hu⟩ := get_some hlj
      have hur := hcr u (List.mem_of_getElem? hu)
      refine awp_skip ?_
      refine awp_seq ?_
      refine awp_block ?_
      refine awp_seq ?_
      refine awp_region ?_
      refine sq_plain rfl rfl rfl (w_idxm rfl Try.underlying55 Try.sizeOf3 (ev_tmp rfl) (ev_tmp rfl) hu (by first | omega | ((try simp only [List.length_map, List.length_take, List.length_cons, List.length_nil, chunks_len, szR] at *); omega) | (have hc2 := hc; simp only [Bool.and_eq_true, Bool.or_eq_true, Bool.or_eq_false_iff, Bool.and_eq_false_iff, Bool.not_eq_true', Bool.not_eq_false', decide_eq_true_eq, decide_eq_false_iff_not, beq_iff_eq, bne_iff_ne, List.length_map, List.length_take] at hc2; omega))) ?_
      refine sq_plain rfl rfl rfl (w_loadE1 rfl (ev_tmp rfl) Try.isAgg3 rfl) ?_
      refine sq_plain rfl rfl rfl (w_assign rfl (ev_tmp rfl)) ?_
      refine sq_nil ?_
      refine awp_region ?_
      refine sq_plain rfl rfl rfl (w_fldBn 1 rfl Try.underlying74 rfl Try.sizeOf55 (ev_tmp rfl) rfl) ?_
      refine sq_plain rfl rfl rfl (w_loadB1 1 rfl (ev_tmp rfl) rfl Try.isAgg55 rfl) ?_
      refine sq_plain rfl rfl rfl (w_move rfl (ev_tmp rfl)) ?_
      refine sq_plain rfl rfl rfl (w_fldBn 0 rfl Try.underlying74 rfl Try.sizeOf72 (ev_tmp rfl) rfl) ?_
      refine sq_plain rfl rfl rfl (w_loadB1 5 rfl (ev_tmp rfl) rfl Try.isAgg72 rfl) ?_
      refine sq_plain rfl rfl rfl (w_llen rfl Try.underlying72 (ev_tmp rfl)) ?_
      refine sq_plain rfl rfl rfl (w_aidx 0 rfl Try.underlying55 Try.sizeOf3 (ev_tmp rfl) rfl (ev_tmp rfl) (by omega) (by simp only [List.length_map, setK_len]; omega)) ?_
      refine sq_storeA 0 rfl rfl rfl (ev_tmp rfl) (ev_tmp rfl) (as_ik _ _) rfl Try.sizeOf3 rfl (by simp only [List.length_map, setK_len]; omega) ?_
      refine sq_nil ?_
      refine awp_region ?_
      refine sq_plain rfl rfl rfl (w_addi rfl (ev_tmp rfl) ev_ci (by first | omega | ((try simp only [List.length_map, List.length_take, List.length_cons, List.length_nil, chunks_len, szR] at *); omega) | (have hc2 := hc; simp only [Bool.and_eq_true, Bool.or_eq_true, Bool.or_eq_false_iff, Bool.and_eq_false_iff, Bool.not_eq_true', Bool.not_eq_false', decide_eq_true_eq, decide_eq_false_iff_not, beq_iff_eq, bne_iff_ne, List.length_map, List.length_take] at hc2; omega))) ?_
      refine sq_plain rfl rfl rfl (w_move rfl (ev_tmp rfl)) ?_
      refine sq_nil ?_
      refine round_end j (j + 1) ?_ ?_ (le_eq (by exact congrArg (fun z => Own.arr _ _ _ z :: _) (by rw [← setK_step hu, List.map_set]; simp only [List.length_map]; rfl)) ⟨rfl, rfl, rfl, rfl, rfl, rfl, rfl, rfl, trivial⟩)
      · omega
      · omega
    · intro h51
      have k51 := of_decide_eq_false h51; try simp only [List.length_map] at k51
      have hgj : (changed (lastM a) p).length ≤ j := by omega
      rw [List.take_of_length_le hgj]
      refine awp_exit ?_
      refine awp_seq ?_
      refine AWP.le (le_pick [1, 3] rfl) ?_
      refine awp_region_mix _ [(0, false), (1, false), (2, false), (3, true), (4, false), (5, true)] (by kernel_rfl) (by kernel_rfl) rfl (invx_take 2) ?_
      refine bc_plain rfl rfl rfl (fun ext => w_fldBn 0 rfl Try.underlying74 rfl Try.sizeOf72 (ev_tmp rfl) rfl) ?_
      refine bc_plain rfl rfl rfl (fun ext => w_loadB1 0 rfl (ev_tmp rfl) rfl Try.isAgg72 rfl) ?_
      refine bc_plain rfl rfl rfl (fun ext => w_loadA 1 rfl (ev_tmp rfl) rfl Try.isAgg57 Try.sizeOf57 rfl) ?_
      refine bc_eff rfl rfl rfl (opE_mid 6 (opE_call [] rfl Try.call95 rfl (copyPlaces_own _ (by first | assumption | omega)) (evl_cons (ev_tmp rfl) evl_nil) rfl)) (fun a _ => (by first | exact invx_mk rfl | exact invx_mk (List.append_assoc _ _ _) | exact invx_all)) ?_
      intro x65 ok65
      refine bc_plain rfl rfl rfl (fun ext => w_bslice rfl Try.underlying72 Try.sizeOf57 Try.zeroValue57 rfl rfl rfl rfl (bp_cons (ev_tmp rfl) (as_agg _) bp_nil) rfl rfl) ?_
      refine bc_eff rfl rfl rfl (opE_append (by' := 56) 3 rfl Try.underlying72 Try.type57 rfl rfl rfl rfl rfl rfl (ev_tmp rfl) (ev_tmp rfl) rfl (by rw [nrows_len ok38, chunks_len]; omega)) (fun a _ => (by first | exact invx_mk rfl | exact invx_mk (List.append_assoc _ _ _) | exact invx_all)) ?_
      intro v67_3 _
      refine bc_nil ?_
      refine sq_plain rfl rfl rfl (w_fldBn 0 rfl Try.underlying74 rfl Try.sizeOf72 (ev_tmp rfl) rfl) ?_
      refine sq_fact 3 rfl fun one_v67_3 => ?_
      refine sq_storeB1 0 rfl rfl rfl (ev_tmp rfl) (ev_tmp rfl) (as_is one_v67_3) rfl Try.sizeOf72 rfl ?_
      refine sq_nil ?_
      refine awp_seq ?_
      refine awp_own (by first | (simp only [TPlaces.ow, pick, List.eraseIdx_cons_zero, List.eraseIdx_cons_succ, List.set_cons_zero, List.set_cons_succ, List.cons_append, List.nil_append, List.getElem?_cons_zero, List.getElem?_cons_succ, List.append_nil, List.take_succ_cons, List.take_zero, List.drop_succ_cons, List.drop_zero]; exact rfl) | exact rfl) ?_
      refine AWP.le (le_pick [0, 0, 0, 0, 0, 0, 0, 0] rfl) ?_
      refine AWP.le (le_tail 6 (t := nin TPlaces.ow (a.Maps ++ [p]) (x38.2.2 ++ [x65])) (nin_snoc (ow := TPlaces.ow) (p := p) (x := x65) ok38)) ?_
      refine awp_region ?_
      refine sq_plain rfl rfl rfl (w_loadA 0 rfl (ev_tmp rfl) rfl Try.isAgg74 Try.sizeOf74 rfl) ?_
      refine sq_storeB0 4 rfl rfl rfl (ev_tmp rfl) (ev_tmp rfl) (as_agg _) rfl Try.sizeOf74 rfl ?_
      refine sq_plain rfl rfl rfl (w_assign rfl ev_cb) ?_
      refine sq_nil ?_
      refine awp_ret ?_
      first | exact retGT [3, 2] 4 (nin TPlaces.ow (a.Maps ++ [p]) (x38.2.2 ++ [x65])) [] (v67_3, x38.2.1, []) (rfl) rfl (show List.Perm (nin TPlaces.ow (a.Maps ++ [p]) (x38.2.2 ++ [x65])) ((nin TPlaces.ow (a.Maps ++ [p]) (x38.2.2 ++ [x65])) ++ []) from perm_nil) (by first | rfl | exact congrArg (fun z => Own.arr _ _ _ z :: _) (nrows_snoc ok38)) (resN rfl (by decide) (rv_cons (rv_cell (ys := _) 4 rfl rfl Try.isAgg74 Try.sizeOf74 rfl) (rv_cons (rv_tmp' rfl (by rfl)) rv_nil))) | exact retGT [3, 2] 4 (nin TPlaces.ow (a.Maps ++ [p]) (x38.2.2 ++ [x65])) [] (v67_3, x38.2.1, x38.2.2 ++ [x65]) (by rw [List.length_append, List.length_append, ok38]; rfl) rfl (show List.Perm (nin TPlaces.ow (a.Maps ++ [p]) (x38.2.2 ++ [x65])) ((nin TPlaces.ow (a.Maps ++ [p]) (x38.2.2 ++ [x65])) ++ []) from perm_nil) (by first | rfl | exact congrArg (fun z => Own.arr _ _ _ z :: _) (nrows_snoc ok38)) (resN rfl (by decide) (rv_cons (rv_cell (ys := _) 4 rfl rfl Try.isAgg74 Try.sizeOf74 rfl) (rv_cons (rv_tmp' rfl (by rfl)) rv_nil)))
theorem addMapS_own (a : TAtlas) (p : TPlaces) (hs : a.size ≤ 1048576) (hp : p.size ≤ 1048576) : GSpec Try.prog 48 [AV.agg a.cs, AV.agg p.cs] [] (fun x : Value × Value × List (Value × Value) => x.2.2.length = (addMapS a p).1.Maps.length) (fun x => TAtlas.ow (addMapS a p).1 x) (fun x => AV.tup [AV.agg (TAtlas.ocs (addMapS a p).1 x), AV.bool (addMapS a p).2]) := by
  have hml : a.Maps.length ≤ 4194304 := Nat.le_trans sizeL_len (show sizeL TPlaces.size a.Maps ≤ 4194304 by unfold TAtlas.size at hs; omega)
  have hlf : goodAtlas a = true → 1 ≤ a.Maps.length ∧ a.Maps[a.Maps.length - 1]? = some (lastM a) ∧ (lastM a).size ≤ 1048576 := fun h => ⟨(atlas_facts h).1, (lastM_good h).1, map_size hs (lastM_good h).1⟩
  have hcg : (!(!goodAtlasS a || !goodPlacesS p || decide ((12 : Int) ≤ ((a.Maps.map TPlaces.cs).length : Int)))) = true → goodAtlas a = true := fun h => by cases hg : goodAtlasS a with | true => (rw [goodAtlas_eq]; exact hg) | false => (rw [hg] at h; simp at h)
  refine gspec_of_awp Try.func48 rfl Try.ntmps48 rfl ?_
  refine awp_seq ?_
  refine awp_region ?_
  refine sq_box rfl rfl rfl rfl (ev_tmp rfl) ?_
  intro b2
  refine sq_box rfl rfl rfl rfl (ev_tmp rfl) ?_
  intro b3
  refine sq_alloc rfl rfl rfl rfl Try.zeroValue74 rfl ?_
  intro b4
  refine sq_plain rfl rfl rfl (w_assign rfl ev_cb) ?_
  refine sq_nil ?_
  refine awp_seq ?_
  refine awp_seq ?_
  refine awp_region_any (by kernel_rfl) (by kernel_rfl) rfl ?_
  refine ch_plain rfl rfl (w_loadA 2 rfl (ev_tmp rfl) rfl Try.isAgg74 Try.sizeOf74 rfl) ?_
  refine ch_plain rfl rfl (w_call rfl Try.call45 rfl (goodAtlasS_spec _ (by first | assumption | omega)) (evl_cons (ev_tmp rfl) evl_nil)) ?_
  refine ch_plain rfl rfl (w_not rfl (ev_tmp rfl)) ?_
  refine ch_plain rfl rfl (w_move rfl (ev_tmp rfl)) ?_
  refine ch_grd rfl (guard_f rfl rfl rfl) (fun hc => w_loadA 1 rfl (ev_tmp rfl) rfl Try.isAgg57 Try.sizeOf57 rfl) ?_
  refine ch_grd rfl (guard_f rfl rfl rfl) (fun hc => w_call rfl Try.call35 rfl (goodPlacesS_spec _ (by first | assumption | omega)) (evl_cons (ev_whn rfl hc) evl_nil)) ?_
  refine ch_grd rfl (guard_f rfl rfl rfl) (fun hc => w_not rfl (ev_whn rfl hc)) ?_
  refine ch_plain rfl rfl (w_or rfl (ev_tmp rfl) (evif_w rfl)) ?_
  refine ch_plain rfl rfl (w_move rfl (ev_tmp rfl)) ?_
  refine ch_grd rfl (guard_f rfl rfl rfl) (fun hc => w_fldBn 0 rfl Try.underlying74 rfl Try.sizeOf72 (ev_tmp rfl) rfl) ?_
  refine ch_grd rfl (guard_f rfl rfl rfl) (fun hc => w_loadB1 2 rfl (ev_whn rfl hc) rfl Try.isAgg72 rfl) ?_
  refine ch_grd rfl (guard_f rfl rfl rfl) (fun hc => w_llen rfl Try.underlying72 (ev_whn rfl hc)) ?_
  refine ch_grd rfl (guard_f rfl rfl rfl) (fun hc => w_geq rfl (ev_whn rfl hc) ev_ci) ?_
  refine ch_plain rfl rfl (w_or rfl (ev_tmp rfl) (evif_w rfl)) ?_
  refine ch_plain rfl rfl (w_move rfl (ev_tmp rfl)) ?_
  refine ch_grd rfl (guard_f rfl rfl rfl) (fun hc => w_fldBn 0 rfl Try.underlying74 rfl Try.sizeOf72 (ev_tmp rfl) rfl) ?_
  refine ch_grd rfl (guard_f rfl rfl rfl) (fun hc => w_loadB1 2 rfl (ev_whn rfl hc) rfl Try.isAgg72 rfl) ?_
  refine ch_grd rfl (guard_f rfl rfl rfl) (fun hc => w_fldBn 0 rfl Try.underlying74 rfl Try.sizeOf72 (ev_tmp rfl) rfl) ?_
  refine ch_grd rfl (guard_f rfl rfl rfl) (fun hc => w_loadB1 2 rfl (ev_whn rfl hc) rfl Try.isAgg72 rfl) ?_
  refine ch_grd rfl (guard_f rfl rfl rfl) (fun hc => w_llen rfl Try.underlying72 (ev_whn rfl hc)) ?_
  refine ch_grd rfl (guard_f rfl rfl rfl) (fun hc => w_subi rfl (ev_whn rfl hc) ev_ci (by first | omega | ((try simp only [List.length_map, List.length_take, List.length_cons, List.length_nil, chunks_len, szR] at *); omega) | (have hc2 := hc; simp only [Bool.and_eq_true, Bool.or_eq_true, Bool.or_eq_false_iff, Bool.and_eq_false_iff, Bool.not_eq_true', Bool.not_eq_false', decide_eq_true_eq, decide_eq_false_iff_not, beq_iff_eq, bne_iff_ne, List.length_map, List.length_take] at hc2; omega))) ?_
  refine ch_grd rfl (guard_f rfl rfl rfl) (fun hc => w_idx rfl Try.underlying72 Try.sizeOf57 (ev_whn rfl hc) (ev_whn rfl hc) (by have h9 := hlf (hcg hc); simp only [List.length_map]; omega) (by have h9 := hlf (hcg hc); rw [List.getElem?_map, show (((a.Maps.map TPlaces.cs).length : Int) - 1).toNat = a.Maps.length - 1 by simp only [List.length_map]; omega, h9.2.1]; rfl)) ?_
  refine ch_grd rfl (guard_f rfl rfl rfl) (fun hc => w_loadE rfl (ev_whn rfl hc) Try.isAgg57 Try.sizeOf57) ?_
  refine ch_grd rfl (guard_f rfl rfl rfl) (fun hc => w_loadA 1 rfl (ev_tmp rfl) rfl Try.isAgg57 Try.sizeOf57 rfl) ?_
  refine ch_grd rfl (guard_f rfl rfl rfl) (fun hc => w_call rfl Try.call126 rfl (l21Next_spec (lastM a) p (Nat.le_trans (hlf (hcg hc)).2.2 (by decide)) (Nat.le_trans hp (by decide))) (evl_cons (ev_whn rfl hc) (evl_cons (ev_whn rfl hc) evl_nil))) ?_
  refine ch_grd rfl (guard_f rfl rfl rfl) (fun hc => w_not rfl (ev_whn rfl hc)) ?_
  refine ch_plain rfl rfl (w_or rfl (ev_tmp rfl) (evif_w rfl)) ?_
  refine ch_nil ?_
  refine awp_cond (ev_tmp rfl) ?_ ?_
  · intro h35
    have he : addMapS a p = (⟨[], []⟩, false) := by unfold addMapS; rw [if_pos (by simpa only [List.length_map] using h35)]
    rw [he]
    refine awp_seq ?_
    refine awp_region ?_
    refine sq_plain rfl rfl rfl (w_build (places := #[(0, 1), (1, 1)]) rfl Try.underlying74 Try.zeroValue74 (fun w => by kernel_rfl) rfl bp_nil rfl) ?_
    refine sq_storeB0 0 rfl rfl rfl (ev_tmp rfl) (ev_tmp rfl) (as_agg _) rfl Try.sizeOf74 rfl ?_
    refine sq_plain rfl rfl rfl (w_assign rfl ev_cb) ?_
    refine sq_nil ?_
    refine awp_ret ?_
    refine retG_nil 57 3 ?_
    refine retG_nil 3 1 ?_
    first | exact retG [1, 0] ((Value.slice none 0 0), (Value.slice none 0 0), []) (rfl) rfl (by first | rfl | exact congrArg (fun z => Own.arr _ _ _ z :: _) (nrows_snoc ok38)) (resN rfl (by decide) (rv_cons (rv_cell (ys := _) 2 rfl rfl Try.isAgg74 Try.sizeOf74 rfl) (rv_cons (rv_tmp' rfl (by rfl)) rv_nil))) | exact retG [1, 0] ((Value.slice none 0 0), (Value.slice none 0 0), x38.2.2 ++ [x65]) (by rw [List.length_append, List.length_append, ok38]; rfl) rfl (by first | rfl | exact congrArg (fun z => Own.arr _ _ _ z :: _) (nrows_snoc ok38)) (resN rfl (by decide) (rv_cons (rv_cell (ys := _) 2 rfl rfl Try.isAgg74 Try.sizeOf74 rfl) (rv_cons (rv_tmp' rfl (by rfl)) rv_nil)))
  · intro h35
    have h35' := h35
    simp only [List.length_map, Bool.or_eq_false_iff, Bool.not_eq_false'] at h35'
    have hga : goodAtlas a = true := by rw [goodAtlas_eq]; exact h35'.1.1.1
    have hg := atlas_facts hga
    have hgl := lastM_good hga
    have hll := hlf hga
    have hgl2 := hgl.2
    have hgp : goodPlaces p = true := by rw [goodPlaces_eq]; exact h35'.1.1.2
    have hnx : isNext (lastM a) p = true := by rw [isNext_eq]; exact h35'.2
    have hcr := changed_range hgl.2 hgp
    rw [changed_eq hgl.2 hgp hnx] at hcr
    have he : addMapS a p = (⟨a.Maps ++ [p], setK a.Knows (concerned (lastM a) p) a.Maps.length⟩, true) := by unfold addMapS; rw [if_neg (by simp only [List.length_map] at h35; rw [h35]; decide)]
    rw [he]
    have hclen := concerned_len (lastM a) p
    refine awp_skip ?_
    refine awp_seq ?_
    refine awp_region ?_
    refine sq_plain rfl rfl rfl (w_loadA 2 rfl (ev_tmp rfl) rfl Try.isAgg74 Try.sizeOf74 rfl) ?_
    refine sq_callGT [] 3 2 ([]) ([]) (fun zz => nin TPlaces.ow a.Maps zz.2.2) rfl rfl rfl rfl Try.call130 rfl rfl (show List.Perm ([]) (([]) ++ ([])) from List.Perm.refl _) (l21Own_own a hs) (evl_cons (ev_tmp rfl) evl_nil) (fun a => perm_lin) ?_
    intro x38 ok38
    refine sq_alloc rfl rfl rfl rfl Try.zeroValue74 rfl ?_
    intro b6
    refine sq_storeB0 0 rfl rfl rfl (ev_tmp rfl) (ev_tmp rfl) (as_agg _) rfl Try.sizeOf74 rfl ?_
    refine sq_nil ?_
    refine awp_seq ?_
    refine awp_seq ?_
    refine awp_region_any (by kernel_rfl) (by kernel_rfl) rfl ?_
    refine ch_plain rfl rfl (w_fldBn 0 rfl Try.underlying74 rfl Try.sizeOf72 (ev_tmp rfl) rfl) ?_
    refine ch_plain rfl rfl (w_loadB1 5 rfl (ev_tmp rfl) rfl Try.isAgg72 rfl) ?_
    refine ch_plain rfl rfl (w_fldBn 0 rfl Try.underlying74 rfl Try.sizeOf72 (ev_tmp rfl) rfl) ?_
    refine ch_plain rfl rfl (w_loadB1 5 rfl (ev_tmp rfl) rfl Try.isAgg72 rfl) ?_
    refine ch_plain rfl rfl (w_llen rfl Try.underlying72 (ev_tmp rfl)) ?_
    refine ch_plain rfl rfl (w_subi rfl (ev_tmp rfl) ev_ci (by first | omega | ((try simp only [List.length_map, List.length_take, List.length_cons, List.length_nil, chunks_len, szR] at *); omega) | (have hc2 := hc; simp only [Bool.and_eq_true, Bool.or_eq_true, Bool.or_eq_false_iff, Bool.and_eq_false_iff, Bool.not_eq_true', Bool.not_eq_false', decide_eq_true_eq, decide_eq_false_iff_not, beq_iff_eq, bne_iff_ne, List.length_map, List.length_take] at hc2; omega))) ?_
    refine ch_plain rfl rfl (w_idx rfl Try.underlying72 Try.sizeOf57 (ev_tmp rfl) (ev_tmp rfl) (by simp only [List.length_map]; omega) (by rw [List.getElem?_map, show (((a.Maps.map TPlaces.cs).length : Int) - 1).toNat = a.Maps.length - 1 by simp only [List.length_map]; omega, hll.2.1]; rfl)) ?_
    refine ch_plain rfl rfl (w_loadE rfl (ev_tmp rfl) Try.isAgg57 Try.sizeOf57) ?_
    refine ch_plain rfl rfl (w_loadA 4 rfl (ev_tmp rfl) rfl Try.isAgg57 Try.sizeOf57 rfl) ?_
    refine ch_plain rfl rfl (w_call rfl Try.call127 rfl (concerned_spec _ _ (by first | assumption | omega) (by first | assumption | omega)) (evl_cons (ev_tmp rfl) (evl_cons (ev_tmp rfl) evl_nil))) ?_
    refine ch_plain rfl rfl (w_llen rfl Try.underlying55 (ev_tmp rfl)) ?_
    refine ch_plain rfl rfl (w_move rfl ev_ci) ?_
    refine ch_nil ?_
    refine awp_block ?_
    refine awp_own (by first | (simp only [TAtlas.ow, pick, List.eraseIdx_cons_zero, List.eraseIdx_cons_succ, List.set_cons_zero, List.set_cons_succ, List.cons_append, List.nil_append, List.getElem?_cons_zero, List.getElem?_cons_succ, List.append_nil, List.take_succ_cons, List.take_zero, List.drop_succ_cons, List.drop_zero]; exact rfl) | exact rfl) ?_
    refine AWP.le (le_pick [2] rfl) ?_
    refine awp_loop_i [(2, _), (3, _), (4, _), (5, _), (6, _), (48, _), (49, _)] _ (fun (j : Nat) => j ≤ (concerned (lastM a) p).length) (fun (j : Nat) => [.arr x38.2.1 3 1 ((setK a.Knows ((concerned (lastM a) p).take j) a.Maps.length).map fun x => [AV.int x])]) (fun (j : Nat) => [(50, AV.int j)]) (fun (j : Nat) => (concerned (lastM a) p).length - j) (0) ?_ (le_eq (by rfl) ⟨rfl, rfl, rfl, rfl, rfl, rfl, rfl, rfl, trivial⟩) ?_
    · exact Nat.zero_le _
    intro j hinv
    refine awp_seq ?_
    refine awp_region ?_
    refine sq_plain rfl rfl rfl (w_lss rfl (ev_tmp rfl) (ev_tmp rfl)) ?_
    refine sq_nil ?_
    refine awp_seq ?_
    refine awp_cond (ev_tmp rfl) ?_ ?_
    · intro h51
      have k51 := of_decide_eq_true h51; try simp only [List.length_map] at k51
      have hlj : j < (concerned (lastM a) p).length := by omega
      obtain ⟨u, hu⟩ := get_some hlj
      have hur := hcr u (List.mem_of_getElem? hu)
      refine awp_skip ?_
      refine awp_seq ?_
      refine awp_block ?_
      refine awp_seq ?_
      refine awp_region ?_
      refine sq_plain rfl rfl rfl (w_idxm rfl Try.underlying55 Try.sizeOf3 (ev_tmp rfl) (ev_tmp rfl) hu (by first | omega | ((try simp only [List.length_map, List.length_take, List.length_cons, List.length_nil, chunks_len, szR] at *); omega) | (have hc2 := hc; simp only [Bool.and_eq_true, Bool.or_eq_true, Bool.or_eq_false_iff, Bool.and_eq_false_iff, Bool.not_eq_true', Bool.not_eq_false', decide_eq_true_eq, decide_eq_false_iff_not, beq_iff_eq, bne_iff_ne, List.length_map, List.length_take] at hc2; omega))) ?_
      refine sq_plain rfl rfl rfl (w_loadE1 rfl (ev_tmp rfl) Try.isAgg3 rfl) ?_
      refine sq_plain rfl rfl rfl (w_assign rfl (ev_tmp rfl)) ?_
      refine sq_nil ?_
      refine awp_region ?_
      refine sq_plain rfl rfl rfl (w_fldBn 1 rfl Try.underlying74 rfl Try.sizeOf55 (ev_tmp rfl) rfl) ?_
      refine sq_plain rfl rfl rfl (w_loadB1 1 rfl (ev_tmp rfl) rfl Try.isAgg55 rfl) ?_
      refine sq_plain rfl rfl rfl (w_move rfl (ev_tmp rfl)) ?_
      refine sq_plain rfl rfl rfl (w_fldBn 0 rfl Try.underlying74 rfl Try.sizeOf72 (ev_tmp rfl) rfl) ?_
      refine sq_plain rfl rfl rfl (w_loadB1 5 rfl (ev_tmp rfl) rfl Try.isAgg72 rfl) ?_
      refine sq_plain rfl rfl rfl (w_llen rfl Try.underlying72 (ev_tmp rfl)) ?_
      refine sq_plain rfl rfl rfl (w_aidx 0 rfl Try.underlying55 Try.sizeOf3 (ev_tmp rfl) rfl (ev_tmp rfl) (by omega) (by simp only [List.length_map, setK_len]; omega)) ?_
      refine sq_storeA 0 rfl rfl rfl (ev_tmp rfl) (ev_tmp rfl) (as_ik _ _) rfl Try.sizeOf3 rfl (by simp only [List.length_map, setK_len]; omega) ?_
      refine sq_nil ?_
      refine awp_region ?_
      refine sq_plain rfl rfl rfl (w_addi rfl (ev_tmp rfl) ev_ci (by first | omega | ((try simp only [List.length_map, List.length_take, List.length_cons, List.length_nil, chunks_len, szR] at *); omega) | (have hc2 := hc; simp only [Bool.and_eq_true, Bool.or_eq_true, Bool.or_eq_false_iff, Bool.and_eq_false_iff, Bool.not_eq_true', Bool.not_eq_false', decide_eq_true_eq, decide_eq_false_iff_not, beq_iff_eq, bne_iff_ne, List.length_map, List.length_take] at hc2; omega))) ?_
      refine sq_plain rfl rfl rfl (w_move rfl (ev_tmp rfl)) ?_
      refine sq_nil ?_
      refine round_end j (j + 1) ?_ ?_ (le_eq (by exact congrArg (fun z => Own.arr _ _ _ z :: _) (by rw [← setK_step hu, List.map_set]; simp only [List.length_map]; rfl)) ⟨rfl, rfl, rfl, rfl, rfl, rfl, rfl, rfl, trivial⟩)
      · omega
      · omega
    · intro h51
      have k51 := of_decide_eq_false h51; try simp only [List.length_map] at k51
      have hgj : (concerned (lastM a) p).length ≤ j := by omega
      rw [List.take_of_length_le hgj]
      refine awp_exit ?_
      refine awp_seq ?_
      refine AWP.le (le_pick [1, 3] rfl) ?_
      refine awp_region_mix _ [(0, false), (1, false), (2, false), (3, true), (4, false), (5, true)] (by kernel_rfl) (by kernel_rfl) rfl (invx_take 2) ?_
      refine bc_plain rfl rfl rfl (fun ext => w_fldBn 0 rfl Try.underlying74 rfl Try.sizeOf72 (ev_tmp rfl) rfl) ?_
      refine bc_plain rfl rfl rfl (fun ext => w_loadB1 0 rfl (ev_tmp rfl) rfl Try.isAgg72 rfl) ?_
      refine bc_plain rfl rfl rfl (fun ext => w_loadA 1 rfl (ev_tmp rfl) rfl Try.isAgg57 Try.sizeOf57 rfl) ?_
      refine bc_eff rfl rfl rfl (opE_mid 6 (opE_call [] rfl Try.call108 rfl (l20Own_own _ (by first | assumption | omega)) (evl_cons (ev_tmp rfl) evl_nil) rfl)) (fun a _ => (by first | exact invx_mk rfl | exact invx_mk (List.append_assoc _ _ _) | exact invx_all)) ?_
      intro x65 ok65
      refine bc_plain rfl rfl rfl (fun ext => w_bslice rfl Try.underlying72 Try.sizeOf57 Try.zeroValue57 rfl rfl rfl rfl (bp_cons (ev_tmp rfl) (as_agg _) bp_nil) rfl rfl) ?_
      refine bc_eff rfl rfl rfl (opE_append (by' := 56) 3 rfl Try.underlying72 Try.type57 rfl rfl rfl rfl rfl rfl (ev_tmp rfl) (ev_tmp rfl) rfl (by rw [nrows_len ok38, chunks_len]; omega)) (fun a _ => (by first | exact invx_mk rfl | exact invx_mk (List.append_assoc _ _ _) | exact invx_all)) ?_
      intro v67_3 _
      refine bc_nil ?_
      refine sq_plain rfl rfl rfl (w_fldBn 0 rfl Try.underlying74 rfl Try.sizeOf72 (ev_tmp rfl) rfl) ?_
      refine sq_fact 3 rfl fun one_v67_3 => ?_
      refine sq_storeB1 0 rfl rfl rfl (ev_tmp rfl) (ev_tmp rfl) (as_is one_v67_3) rfl Try.sizeOf72 rfl ?_
      refine sq_nil ?_
      refine awp_seq ?_
      refine awp_own (by first | (simp only [TPlaces.ow, pick, List.eraseIdx_cons_zero, List.eraseIdx_cons_succ, List.set_cons_zero, List.set_cons_succ, List.cons_append, List.nil_append, List.getElem?_cons_zero, List.getElem?_cons_succ, List.append_nil, List.take_succ_cons, List.take_zero, List.drop_succ_cons, List.drop_zero]; exact rfl) | exact rfl) ?_
      refine AWP.le (le_pick [0, 0, 0, 0, 0, 0, 0, 0] rfl) ?_
      refine AWP.le (le_tail 6 (t := nin TPlaces.ow (a.Maps ++ [p]) (x38.2.2 ++ [x65])) (nin_snoc (ow := TPlaces.ow) (p := p) (x := x65) ok38)) ?_
      refine awp_region ?_
      refine sq_plain rfl rfl rfl (w_loadA 0 rfl (ev_tmp rfl) rfl Try.isAgg74 Try.sizeOf74 rfl) ?_
      refine sq_storeB0 4 rfl rfl rfl (ev_tmp rfl) (ev_tmp rfl) (as_agg _) rfl Try.sizeOf74 rfl ?_
      refine sq_plain rfl rfl rfl (w_assign rfl ev_cb) ?_
      refine sq_nil ?_
      refine awp_ret ?_
      first | exact retGT [3, 2] 4 (nin TPlaces.ow (a.Maps ++ [p]) (x38.2.2 ++ [x65])) [] (v67_3, x38.2.1, []) (rfl) rfl (show List.Perm (nin TPlaces.ow (a.Maps ++ [p]) (x38.2.2 ++ [x65])) ((nin TPlaces.ow (a.Maps ++ [p]) (x38.2.2 ++ [x65])) ++ []) from perm_nil) (by first | rfl | exact congrArg (fun z => Own.arr _ _ _ z :: _) (nrows_snoc ok38)) (resN rfl (by decide) (rv_cons (rv_cell (ys := _) 4 rfl rfl Try.isAgg74 Try.sizeOf74 rfl) (rv_cons (rv_tmp' rfl (by rfl)) rv_nil))) | exact retGT [3, 2] 4 (nin TPlaces.ow (a.Maps ++ [p]) (x38.2.2 ++ [x65])) [] (v67_3, x38.2.1, x38.2.2 ++ [x65]) (by rw [List.length_append, List.length_append, ok38]; rfl) rfl (show List.Perm (nin TPlaces.ow (a.Maps ++ [p]) (x38.2.2 ++ [x65])) ((nin TPlaces.ow (a.Maps ++ [p]) (x38.2.2 ++ [x65])) ++ []) from perm_nil) (by first | rfl | exact congrArg (fun z => Own.arr _ _ _ z :: _) (nrows_snoc ok38)) (resN rfl (by decide) (rv_cons (rv_cell (ys := _) 4 rfl rfl Try.isAgg74 Try.sizeOf74 rfl) (rv_cons (rv_tmp' rfl (by rfl)) rv_nil)))
theorem addMapS_spec (a : TAtlas) (p : TPlaces) (hs : a.size ≤ 1048576) (hp : p.size ≤ 1048576) : FSpec Try.prog 48 [AV.agg a.cs, AV.agg p.cs] (AV.tup [AV.agg (addMapS a p).1.cs, AV.bool (addMapS a p).2]) :=
  fspec_of_gspec (addMapS_own a p hs hp) fun x h => lt_tup (lc_cons (lt_agg (TAtlas.lcM _ x h fun _ ho => ho)) (lc_cons lt_refl lc_nil))
end Go.Proofs.Ytdbmaekdejhobaa
