/- Walks: drawn arguments of the migration statements. -/
import Derived.Test.YtdbmaekdejhobaaDraw2W
set_option linter.unusedVariables false
set_option linter.unusedSimpArgs false
set_option maxRecDepth 100000
namespace Go.Proofs.Ytdbmaekdejhobaa
open Go Go.AV Go.M
attribute [local irreducible] OpW OpA OpS AWP FSpec ESpec GSpec OpE RetOk RetOkG RvDen Le Ev GuardIs SrcIs Int.tmod IntKind.wrap bandI
theorem drawNewMove_own (code : List Int) (hcode : ByteL code) : GSpec Try.prog 9 [bytesI code] [] (fun x : Str × Str × List TWrite × Value => x.1.length ≤ 4000 ∧ x.2.1.length ≤ 4000 ∧ sizeL TWrite.size x.2.2.1 ≤ 8000) (fun x => [.arr x.2.2.2 37 3 (x.2.2.1.map TWrite.cs)]) (fun x => AV.tup [AV.str x.1, AV.str x.2.1, AV.is x.2.2.2]) := by
  refine gspec_of_awp Try.func9 rfl Try.ntmps9 rfl ?_
  refine awp_seq ?_
  refine awp_region ?_
  refine sq_plain rfl rfl rfl (w_assign rfl (ev_cs' (l := []) rfl)) ?_
  refine sq_plain rfl rfl rfl (w_assign rfl (ev_cs' (l := []) rfl)) ?_
  refine sq_plain rfl rfl rfl (w_assign rfl ev_cnils) ?_
  refine sq_nil ?_
  refine awp_seq ?_
  refine awp_region ?_
  refine sq_plain rfl rfl rfl (w_move rfl (ev_tmp rfl)) ?_
  refine sq_plain rfl rfl rfl (w_build (places := #[(0, 1), (1, 1), (2, 1)]) rfl Try.underlying112 Try.zeroValue112 (fun w => by kernel_rfl) rfl (bp_cons (ev_tmp rfl) (as_list _ _) bp_nil) rfl) ?_
  refine sq_box rfl rfl rfl rfl (ev_tmp rfl) ?_
  intro b9
  refine sq_plain rfl rfl rfl (w_assign rfl (ev_tmp rfl)) ?_
  refine sq_nil ?_
  refine awp_seq ?_
  refine awp_region ?_
  refine sq_plain rfl rfl rfl (w_move rfl (ev_tmp rfl)) ?_
  refine sq_callG [0] rfl rfl rfl rfl Try.call69 rfl (curBent_own _ _ hcode ⟨0, 0⟩ (by decide)) (evl_cons (ev_tmp rfl) evl_nil) rfl ?_
  intro x11 ok11
  have hs5 := ok11.2
  unfold TMove.size at hs5
  have hf5 := sizeL_len (f := TWrite.size) (l := x11.2.1.From)
  have ht5 := sizeL_len (f := TWrite.size) (l := x11.2.1.To)
  refine sq_le (le_sealD [2] 11 rfl rfl (lt_agg (lc_cons lt_refl (lc_cons lt_refl (lc_cons lt_refl (lc_cons lt_refl (lc_cons (lt_arr (List.mem_of_getElem? (i := 0) rfl) le_refl_e) (lc_cons lt_refl (lc_cons lt_refl lc_nil)))))))) gin_nil) ?_
  refine sq_alloc rfl rfl rfl rfl Try.zeroValue27 rfl ?_
  intro b6
  refine sq_storeB0 0 rfl rfl rfl (ev_tmp rfl) (ev_tmp rfl) (as_agg _) rfl Try.sizeOf27 rfl ?_
  refine sq_nil ?_
  refine awp_seq ?_
  refine awp_own (by first | (simp only [TMove.ow, TMove.ocs, pick, List.eraseIdx_cons_zero, List.eraseIdx_cons_succ, List.set_cons_zero, List.set_cons_succ, List.cons_append, List.nil_append, List.getElem?_cons_zero, List.getElem?_cons_succ, List.append_nil, List.take_succ_cons, List.take_zero, List.drop_succ_cons, List.drop_zero]; exact rfl) | exact rfl) ?_
  refine awp_region_mix _ [(0, false), (1, false), (2, false), (3, false), (4, false), (5, false), (6, false), (7, false), (8, true), (9, false)] (by kernel_rfl) (by kernel_rfl) rfl (invx_take 2) ?_
  refine bc_plain rfl rfl rfl (fun ext => w_fldBn 0 rfl Try.underlying27 rfl Try.sizeOf9 (ev_tmp rfl) rfl) ?_
  refine bc_plain rfl rfl rfl (fun ext => w_loadB1 0 rfl (ev_tmp rfl) rfl Try.isAgg9 rfl) ?_
  refine bc_plain rfl rfl rfl (fun ext => w_fldBn 1 rfl Try.underlying27 rfl Try.sizeOf9 (ev_tmp rfl) rfl) ?_
  refine bc_plain rfl rfl rfl (fun ext => w_loadB1 0 rfl (ev_tmp rfl) rfl Try.isAgg9 rfl) ?_
  refine bc_plain rfl rfl rfl (fun ext => w_fldBn 3 rfl Try.underlying27 rfl Try.sizeOf23 (ev_tmp rfl) rfl) ?_
  refine bc_plain rfl rfl rfl (fun ext => w_loadB1 0 rfl (ev_tmp rfl) rfl Try.isAgg23 rfl) ?_
  refine bc_plain rfl rfl rfl (fun ext => w_fldBn 4 rfl Try.underlying27 rfl Try.sizeOf23 (ev_tmp rfl) rfl) ?_
  refine bc_plain rfl rfl rfl (fun ext => w_loadB1 0 rfl (ev_tmp rfl) rfl Try.isAgg23 rfl) ?_
  refine bc_eff rfl rfl rfl (opE_append (by' := 40) 2 rfl Try.underlying23 Try.type37 rfl rfl rfl rfl rfl rfl (ev_tmp rfl) (ev_tmp rfl) rfl (by first | omega | ((try simp only [List.length_map, List.length_take, List.length_cons, List.length_nil, chunks_len, szR] at *); omega) | (have hc2 := hc; simp only [Bool.and_eq_true, Bool.or_eq_true, Bool.or_eq_false_iff, Bool.and_eq_false_iff, Bool.not_eq_true', Bool.not_eq_false', decide_eq_true_eq, decide_eq_false_iff_not, beq_iff_eq, bne_iff_ne, List.length_map, List.length_take] at hc2; omega))) (fun a _ => (by first | exact invx_mk rfl | exact invx_mk (List.append_assoc _ _ _) | exact invx_all)) ?_
  intro v20_1 _
  refine bc_plain rfl rfl rfl (fun ext => w_assign rfl (ev_tmp rfl)) ?_
  refine bc_nil ?_
  refine sq_plain rfl rfl rfl (w_assign rfl (ev_tmp rfl)) ?_
  refine sq_plain rfl rfl rfl (w_assign rfl (ev_tmp rfl)) ?_
  refine sq_nil ?_
  refine awp_ret ?_
  (refine retG [2] ((x11.2.1.Low, x11.2.1.High, x11.2.1.From ++ x11.2.1.To, v20_1)) ?_ rfl (by first | (dsimp only; rw [List.map_append]; rfl)) (resN rfl (by decide) (rv_cons (rv_tmp' rfl (by rfl)) (rv_cons (rv_tmp' rfl (by rfl)) (rv_cons (rv_tmp' rfl (by rfl)) rv_nil)))); (dsimp only; refine ⟨by omega, by omega, ?_⟩; rw [sizeW_app]; omega))
theorem drawReadMove_own (code : List Int) (hcode : ByteL code) : GSpec Try.prog 11 [bytesI code] [] (fun x : (TMove × Value × Value) × Str => x.1.1.size ≤ 4000 ∧ x.2.length ≤ 64) (fun x => TMove.ow x.1.1 x.1.2) (fun x => AV.tup [AV.agg (TMove.ocs x.1.1 x.1.2), AV.str x.2]) := by
  refine gspec_of_awp Try.func11 rfl Try.ntmps11 rfl ?_
  refine awp_seq ?_
  refine awp_region ?_
  refine sq_alloc rfl rfl rfl rfl Try.zeroValue27 rfl ?_
  intro b2
  refine sq_plain rfl rfl rfl (w_assign rfl (ev_cs' (l := []) rfl)) ?_
  refine sq_nil ?_
  refine awp_seq ?_
  refine awp_region ?_
  refine sq_plain rfl rfl rfl (w_move rfl (ev_tmp rfl)) ?_
  refine sq_plain rfl rfl rfl (w_build (places := #[(0, 1), (1, 1), (2, 1)]) rfl Try.underlying112 Try.zeroValue112 (fun w => by kernel_rfl) rfl (bp_cons (ev_tmp rfl) (as_list _ _) bp_nil) rfl) ?_
  refine sq_box rfl rfl rfl rfl (ev_tmp rfl) ?_
  intro b8
  refine sq_plain rfl rfl rfl (w_assign rfl (ev_tmp rfl)) ?_
  refine sq_nil ?_
  refine awp_seq ?_
  refine awp_region ?_
  refine sq_plain rfl rfl rfl (w_move rfl (ev_tmp rfl)) ?_
  refine sq_callG [0] rfl rfl rfl rfl Try.call69 rfl (curBent_own _ _ hcode ⟨0, 0⟩ (by decide)) (evl_cons (ev_tmp rfl) evl_nil) rfl ?_
  intro x10 ok10
  have hp10 : x10.1.p ≤ 340 := ok10.1
  refine sq_alloc rfl rfl rfl rfl Try.zeroValue27 rfl ?_
  intro b5
  refine sq_storeB0 0 rfl rfl rfl (ev_tmp rfl) (ev_tmp rfl) (as_agg _) rfl Try.sizeOf27 rfl ?_
  refine sq_nil ?_
  refine awp_seq ?_
  refine awp_own (by first | (simp only [TMove.ow, TMove.ocs, pick, List.eraseIdx_cons_zero, List.eraseIdx_cons_succ, List.set_cons_zero, List.set_cons_succ, List.cons_append, List.nil_append, List.getElem?_cons_zero, List.getElem?_cons_succ, List.append_nil, List.take_succ_cons, List.take_zero, List.drop_succ_cons, List.drop_zero]; exact rfl) | exact rfl) ?_
  refine AWP.le (le_pick [0] rfl) ?_
  refine awp_region_mix _ [(0, false), (1, false), (2, false), (3, true)] (by kernel_rfl) (by kernel_rfl) rfl (invx_take 1) ?_
  refine bc_plain rfl rfl rfl (fun ext => w_loadA 0 rfl (ev_tmp rfl) rfl Try.isAgg27 Try.sizeOf27 rfl) ?_
  refine bc_plain rfl rfl rfl (fun ext => w_move rfl (ev_tmp rfl)) ?_
  refine bc_plain rfl rfl rfl (fun ext => w_bslice rfl Try.underlying52 Try.sizeOf9 Try.zeroValue9 rfl rfl rfl rfl (bp_cons (ev_cs' (l := [98]) rfl) (as_str _) (bp_cons (ev_cs' (l := [99]) rfl) (as_str _) (bp_cons (ev_cs' (l := [109]) rfl) (as_str _) (bp_cons (ev_cs' (l := [110]) rfl) (as_str _) (bp_cons (ev_cs' (l := [107]) rfl) (as_str _) (bp_cons (ev_cs' (l := [105, 47, 120, 47, 49]) rfl) (as_str _) (bp_cons (ev_cs' (l := [97]) rfl) (as_str _) (bp_cons (ev_cs' (l := []) rfl) (as_str _) bp_nil)))))))) rfl rfl) ?_
  refine bc_eff rfl rfl rfl (opE_call [1] rfl Try.call72 rfl (curOf_own _ _ hcode _ ([[98], [99], [109], [110], [107], [105, 47, 120, 47, 49], [97], []] : List Str) (by decide) (by omega)) (evl_cons (ev_tmp rfl) (evl_cons (ev_tmp rfl) evl_nil)) rfl) (fun a _ => (by first | exact invx_mk rfl | exact invx_mk (List.append_assoc _ _ _) | exact invx_all)) ?_
  intro x14 ok14
  refine bc_nil ?_
  refine sq_storeB0 3 rfl rfl rfl (ev_tmp rfl) (ev_tmp rfl) (as_agg _) rfl Try.sizeOf27 rfl ?_
  refine sq_plain rfl rfl rfl (w_assign rfl (ev_tmp rfl)) ?_
  refine sq_nil ?_
  refine awp_ret ?_
  (refine retG [1, 1] (((x10.2.1, x10.2.2), x14.2)) ?_ rfl (by first | (dsimp only; rfl) | rfl) (resN rfl (by decide) (rv_cons (rv_cell (ys := _) 3 rfl rfl Try.isAgg27 Try.sizeOf27 rfl) (rv_cons (rv_tmp' rfl (by rfl)) rv_nil))); exact ⟨ok10.2, ok14.2⟩)
theorem drawPlayMove_own (code : List Int) (hcode : ByteL code) : GSpec Try.prog 17 [bytesI code] [] (fun x : (TMove × Value × Value) × List TMoveAct × Value => x.1.1.size ≤ 4000 ∧ sizeL TMoveAct.size x.2.1 ≤ 4500) (fun x => TMove.ow x.1.1 x.1.2 ++ [.arr x.2.2 39 5 (x.2.1.map TMoveAct.cs)]) (fun x => AV.tup [AV.agg (TMove.ocs x.1.1 x.1.2), AV.is x.2.2]) := by
  refine gspec_of_awp Try.func17 rfl Try.ntmps17 rfl ?_
  refine awp_seq ?_
  refine awp_region ?_
  refine sq_alloc rfl rfl rfl rfl Try.zeroValue27 rfl ?_
  intro b2
  refine sq_plain rfl rfl rfl (w_assign rfl ev_cnils) ?_
  refine sq_nil ?_
  refine awp_seq ?_
  refine awp_region ?_
  refine sq_plain rfl rfl rfl (w_move rfl (ev_tmp rfl)) ?_
  refine sq_plain rfl rfl rfl (w_build (places := #[(0, 1), (1, 1), (2, 1)]) rfl Try.underlying112 Try.zeroValue112 (fun w => by kernel_rfl) rfl (bp_cons (ev_tmp rfl) (as_list _ _) bp_nil) rfl) ?_
  refine sq_box rfl rfl rfl rfl (ev_tmp rfl) ?_
  intro b9
  refine sq_plain rfl rfl rfl (w_assign rfl (ev_tmp rfl)) ?_
  refine sq_nil ?_
  refine awp_seq ?_
  refine awp_region ?_
  refine sq_plain rfl rfl rfl (w_move rfl (ev_tmp rfl)) ?_
  refine sq_callG [0] rfl rfl rfl rfl Try.call84 rfl (curMove_own _ _ hcode ⟨0, 0⟩ (by decide)) (evl_cons (ev_tmp rfl) evl_nil) rfl ?_
  intro x11 ok11
  have hp11 : x11.1.p ≤ 320 := ok11.1
  refine sq_alloc rfl rfl rfl rfl Try.zeroValue27 rfl ?_
  intro b5
  refine sq_storeB0 0 rfl rfl rfl (ev_tmp rfl) (ev_tmp rfl) (as_agg _) rfl Try.sizeOf27 rfl ?_
  refine sq_nil ?_
  refine awp_seq ?_
  refine awp_region ?_
  refine sq_plain rfl rfl rfl (w_move rfl (ev_tmp rfl)) ?_
  refine sq_plain rfl rfl rfl (w_loadA 0 rfl (ev_tmp rfl) rfl Try.isAgg27 Try.sizeOf27 rfl) ?_
  refine sq_callG [1] rfl rfl rfl rfl Try.call85 rfl (curMoveActs_own _ _ hcode _ 30 (by decide) (by omega)) (evl_cons (ev_tmp rfl) (evl_cons (ev_weaken (ev_tmp rfl) agg_any) (evl_cons ev_ci evl_nil))) rfl ?_
  intro x14 ok14
  have hll := sizeL_len (f := TMoveAct.size) (l := x14.2.1)
  refine sq_plain rfl rfl rfl (w_assign rfl (ev_tmp rfl)) ?_
  refine sq_nil ?_
  refine awp_seq ?_
  refine awp_seq ?_
  refine awp_own (by first | (simp only [TMove.ow, TMove.ocs, pick, List.eraseIdx_cons_zero, List.eraseIdx_cons_succ, List.set_cons_zero, List.set_cons_succ, List.cons_append, List.nil_append, List.getElem?_cons_zero, List.getElem?_cons_succ, List.append_nil, List.take_succ_cons, List.take_zero, List.drop_succ_cons, List.drop_zero]; exact rfl) | exact rfl) ?_
  refine awp_region ?_
  refine sq_plain rfl rfl rfl (w_move rfl (ev_tmp rfl)) ?_
  refine sq_callG [0] rfl rfl rfl rfl Try.call86 rfl (curPick_own _ _ hcode _ _ (by omega) (by omega)) (evl_cons (ev_tmp rfl) (evl_cons ev_ci evl_nil)) rfl ?_
  intro x16 ok16
  refine sq_nil ?_
  refine awp_block ?_
  refine awp_seq ?_
  refine awp_region ?_
  refine sq_plain rfl rfl rfl (w_eql rfl (ev_tmp rfl) ev_ci) ?_
  refine sq_plain rfl rfl rfl (w_assign rfl (ev_tmp rfl)) ?_
  refine sq_nil ?_
  refine awp_cond (ev_tmp rfl) ?_ ?_
  · intro h17
    have k17 := eq_of_beqt h17; try simp only [List.length_map] at k17
    refine awp_region ?_
    refine sq_plain rfl rfl rfl (w_move rfl (ev_tmp rfl)) ?_
    refine sq_plain rfl rfl rfl (w_move rfl (ev_tmp rfl)) ?_
    refine sq_callG [0] rfl rfl rfl rfl Try.call86 rfl (curPick_own _ _ hcode _ _ (by omega) (by omega)) (evl_cons (ev_tmp rfl) (evl_cons ev_ci evl_nil)) rfl ?_
    intro x21 ok21
    refine sq_plain rfl rfl rfl (w_build (places := #[(0, 1), (1, 3), (4, 1)]) rfl Try.underlying39 Try.zeroValue39 (fun w => by kernel_rfl) rfl (bp_cons (ev_tmp rfl) (as_ik _ _) bp_nil) rfl) ?_
    refine sq_plain rfl rfl rfl (w_bslice rfl Try.underlying42 Try.sizeOf39 Try.zeroValue39 rfl rfl rfl rfl (bp_cons (ev_tmp rfl) (as_agg _) bp_nil) rfl rfl) ?_
    refine sq_append (by' := 56) 1 rfl rfl rfl rfl Try.underlying42 Try.type39 rfl rfl rfl rfl rfl rfl (ev_tmp rfl) (ev_tmp rfl) rfl (by first | omega | ((try simp only [List.length_map, List.length_take, List.length_cons, List.length_nil, chunks_len, szR] at *); omega) | (have hc2 := hc; simp only [Bool.and_eq_true, Bool.or_eq_true, Bool.or_eq_false_iff, Bool.and_eq_false_iff, Bool.not_eq_true', Bool.not_eq_false', decide_eq_true_eq, decide_eq_false_iff_not, beq_iff_eq, bne_iff_ne, List.length_map, List.length_take] at hc2; omega)) ?_
    intro v24_1
    refine sq_plain rfl rfl rfl (w_assign rfl (ev_tmp rfl)) ?_
    refine sq_nil ?_
    refine awp_seq ?_
    refine awp_own (by first | (simp only [TMove.ow, TMove.ocs, pick, List.eraseIdx_cons_zero, List.eraseIdx_cons_succ, List.set_cons_zero, List.set_cons_succ, List.cons_append, List.nil_append, List.getElem?_cons_zero, List.getElem?_cons_succ, List.append_nil, List.take_succ_cons, List.take_zero, List.drop_succ_cons, List.drop_zero]; exact rfl) | exact rfl) ?_
    refine awp_region ?_
    refine sq_plain rfl rfl rfl (w_loadA 2 rfl (ev_tmp rfl) rfl Try.isAgg27 Try.sizeOf27 rfl) ?_
    refine sq_plain rfl rfl rfl (w_move rfl (ev_tmp rfl)) ?_
    refine sq_storeB0 5 rfl rfl rfl (ev_tmp rfl) (ev_tmp rfl) (as_agg _) rfl Try.sizeOf27 rfl ?_
    refine sq_plain rfl rfl rfl (w_assign rfl (ev_tmp rfl)) ?_
    refine sq_nil ?_
    refine awp_ret ?_
    (refine retG [3, 3, 1] (((x11.2.1, x11.2.2), x14.2.1 ++ [⟨x21.2, ⟨[], [], false⟩, 0⟩], v24_1)) ?_ rfl (by first | (dsimp only; rfl) | (dsimp only; rw [List.map_append]; rfl)) (resN rfl (by decide) (rv_cons (rv_cell (ys := _) 5 rfl rfl Try.isAgg27 Try.sizeOf27 rfl) (rv_cons (rv_tmp' rfl (by rfl)) rv_nil))); (first | exact ⟨Nat.le_trans ok11.2 (by decide), Nat.le_trans ok14.2 (by decide)⟩ | exact ⟨ok28.2, Nat.le_trans ok14.2 (by decide)⟩ | (refine ⟨Nat.le_trans ok11.2 (by decide), ?_⟩; dsimp only; rw [sizeW_app, sizeW_cons]; have := ok14.2; simp [sizeL, TMoveAct.size, TWrite.size] at *; omega)))
  · intro h17
    have k17 := ne_of_beqf h17; try simp only [List.length_map] at k17
    refine awp_seq ?_
    refine awp_region ?_
    refine sq_plain rfl rfl rfl (w_eql rfl (ev_tmp rfl) ev_ci) ?_
    refine sq_plain rfl rfl rfl (w_assign rfl (ev_tmp rfl)) ?_
    refine sq_nil ?_
    refine awp_cond (ev_tmp rfl) ?_ ?_
    · intro h25
      have k25 := eq_of_beqt h25; try simp only [List.length_map] at k25
      refine awp_region ?_
      refine sq_plain rfl rfl rfl (w_move rfl (ev_tmp rfl)) ?_
      refine sq_callG [0] rfl rfl rfl rfl Try.call69 rfl (curBent_own _ _ hcode _ (by omega)) (evl_cons (ev_tmp rfl) evl_nil) rfl ?_
      intro x28 ok28
      refine sq_storeB0 4 rfl rfl rfl (ev_tmp rfl) (ev_tmp rfl) (as_agg _) rfl Try.sizeOf27 rfl ?_
      refine sq_nil ?_
      refine awp_seq ?_
      refine awp_own (by first | (simp only [TMove.ow, TMove.ocs, pick, List.eraseIdx_cons_zero, List.eraseIdx_cons_succ, List.set_cons_zero, List.set_cons_succ, List.cons_append, List.nil_append, List.getElem?_cons_zero, List.getElem?_cons_succ, List.append_nil, List.take_succ_cons, List.take_zero, List.drop_succ_cons, List.drop_zero]; exact rfl) | exact rfl) ?_
      refine awp_region ?_
      refine sq_plain rfl rfl rfl (w_loadA 4 rfl (ev_tmp rfl) rfl Try.isAgg27 Try.sizeOf27 rfl) ?_
      refine sq_plain rfl rfl rfl (w_move rfl (ev_tmp rfl)) ?_
      refine sq_storeB0 7 rfl rfl rfl (ev_tmp rfl) (ev_tmp rfl) (as_agg _) rfl Try.sizeOf27 rfl ?_
      refine sq_plain rfl rfl rfl (w_assign rfl (ev_tmp rfl)) ?_
      refine sq_nil ?_
      refine awp_ret ?_
      (refine retG [1, 1, 1] (((x28.2.1, x28.2.2), x14.2.1, x14.2.2)) ?_ rfl (by first | (dsimp only; rfl) | (dsimp only; rw [List.map_append]; rfl)) (resN rfl (by decide) (rv_cons (rv_cell (ys := _) 7 rfl rfl Try.isAgg27 Try.sizeOf27 rfl) (rv_cons (rv_tmp' rfl (by rfl)) rv_nil))); (first | exact ⟨Nat.le_trans ok11.2 (by decide), Nat.le_trans ok14.2 (by decide)⟩ | exact ⟨ok28.2, Nat.le_trans ok14.2 (by decide)⟩ | (refine ⟨Nat.le_trans ok11.2 (by decide), ?_⟩; dsimp only; rw [sizeW_app, sizeW_cons]; have := ok14.2; simp [sizeL, TMoveAct.size, TWrite.size] at *; omega)))
    · intro h25
      have k25 := ne_of_beqf h25; try simp only [List.length_map] at k25
      refine awp_skip ?_
      refine awp_seq ?_
      refine awp_own (by first | (simp only [TMove.ow, TMove.ocs, pick, List.eraseIdx_cons_zero, List.eraseIdx_cons_succ, List.set_cons_zero, List.set_cons_succ, List.cons_append, List.nil_append, List.getElem?_cons_zero, List.getElem?_cons_succ, List.append_nil, List.take_succ_cons, List.take_zero, List.drop_succ_cons, List.drop_zero]; exact rfl) | exact rfl) ?_
      refine awp_region ?_
      refine sq_plain rfl rfl rfl (w_loadA 2 rfl (ev_tmp rfl) rfl Try.isAgg27 Try.sizeOf27 rfl) ?_
      refine sq_plain rfl rfl rfl (w_move rfl (ev_tmp rfl)) ?_
      refine sq_storeB0 5 rfl rfl rfl (ev_tmp rfl) (ev_tmp rfl) (as_agg _) rfl Try.sizeOf27 rfl ?_
      refine sq_plain rfl rfl rfl (w_assign rfl (ev_tmp rfl)) ?_
      refine sq_nil ?_
      refine awp_ret ?_
      (refine retG [3, 3, 1] (((x11.2.1, x11.2.2), x14.2.1, x14.2.2)) ?_ rfl (by first | (dsimp only; rfl) | (dsimp only; rw [List.map_append]; rfl)) (resN rfl (by decide) (rv_cons (rv_cell (ys := _) 5 rfl rfl Try.isAgg27 Try.sizeOf27 rfl) (rv_cons (rv_tmp' rfl (by rfl)) rv_nil))); (first | exact ⟨Nat.le_trans ok11.2 (by decide), Nat.le_trans ok14.2 (by decide)⟩ | exact ⟨ok28.2, Nat.le_trans ok14.2 (by decide)⟩ | (refine ⟨Nat.le_trans ok11.2 (by decide), ?_⟩; dsimp only; rw [sizeW_app, sizeW_cons]; have := ok14.2; simp [sizeL, TMoveAct.size, TWrite.size] at *; omega)))
end Go.Proofs.Ytdbmaekdejhobaa
