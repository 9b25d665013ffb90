/- Walks: atlases, results of the call's own. -/
import Derived.Test.YtdbmaekdejhobaaAtlasW
import Derived.Test.YtdbmaekdejhobaaNestW
set_option linter.unusedVariables false
set_option linter.unusedSimpArgs false
set_option maxRecDepth 100000
namespace Go.Proofs.Ytdbmaekdejhobaa
open Go Go.AV Go.M
attribute [local irreducible] OpW OpA OpS AWP FSpec ESpec GSpec OpE RetOk RetOkG RvDen Le Ev GuardIs SrcIs
theorem ownersOf_own (a : TAtlas) (key : Str) (hs : a.size ≤ 1048576) (hk : key.length ≤ 1048576) : GSpec Try.prog 41 [AV.agg a.cs, AV.str key] [] (fun _ : Value => True) (fun v => [.arr v 3 1 ((ownersOfR a key).1.map fun x => [AV.int x])]) (fun v => AV.tup [AV.is v, AV.bool (ownersOfR a key).2]) := by
  refine gspec_of_awp Try.func41 rfl Try.ntmps41 rfl ?_
  refine awp_seq ?_
  refine awp_region ?_
  refine sq_box rfl rfl rfl rfl (ev_tmp rfl) ?_
  intro b2
  refine sq_plain rfl rfl rfl (w_assign rfl ev_cnils) ?_
  refine sq_plain rfl rfl rfl (w_assign rfl ev_cb) ?_
  refine sq_nil ?_
  refine awp_seq ?_
  refine awp_seq ?_
  refine awp_region ?_
  refine sq_plain rfl rfl rfl (w_loadA 0 rfl (ev_tmp rfl) rfl Try.isAgg74 Try.sizeOf74 rfl) ?_
  refine sq_plain rfl rfl rfl (w_call rfl Try.call44 rfl (goodAtlas_spec _ (by first | assumption | omega)) (evl_cons (ev_tmp rfl) evl_nil)) ?_
  refine sq_plain rfl rfl rfl (w_not rfl (ev_tmp rfl)) ?_
  refine sq_plain rfl rfl rfl (w_move rfl (ev_tmp rfl)) ?_
  refine sq_grd rfl rfl (guard_f rfl rfl rfl) (fun hc => w_move rfl (ev_tmp rfl)) ?_
  refine sq_grd rfl rfl (guard_f rfl rfl rfl) (fun hc => w_call rfl Try.call73 rfl (goodKey_spec _ (by omega)) (evl_cons (ev_whn rfl hc) evl_nil)) ?_
  refine sq_grd rfl rfl (guard_f rfl rfl rfl) (fun hc => w_not rfl (ev_whn rfl hc)) ?_
  refine sq_plain rfl rfl rfl (w_or rfl (ev_tmp rfl) (evif_w rfl)) ?_
  refine sq_nil ?_
  refine awp_cond (ev_tmp rfl) ?_ ?_
  · intro h16
    have he : ownersOfR a key = ([], false) := by unfold ownersOfR; rw [if_pos h16]
    rw [he]
    refine awp_seq ?_
    refine awp_region ?_
    refine sq_plain rfl rfl rfl (w_assign rfl ev_cnils) ?_
    refine sq_plain rfl rfl rfl (w_assign rfl ev_cb) ?_
    refine sq_nil ?_
    refine awp_ret ?_
    refine retG_nil 3 1 ?_
    first | exact retG [0] (Value.slice none 0 0) (trivial) rfl (by rfl) (resN rfl (by decide) (rv_cons (rv_tmp' rfl (by rfl)) (rv_cons (rv_tmp' rfl (by rfl)) rv_nil))) | exact retG [0] (v) (trivial) rfl (by rfl) (resN rfl (by decide) (rv_cons (rv_tmp' rfl (by rfl)) (rv_cons (rv_tmp' rfl (by rfl)) rv_nil)))
  · intro h16
    have he : ownersOfR a key = (ownersOf a key, true) := by unfold ownersOfR; rw [if_neg (by rw [h16]; decide)]
    rw [he]
    have hg : goodAtlas a = true := by revert h16; cases goodAtlas a <;> simp
    have hml := (atlas_facts hg).2.1
    refine awp_skip ?_
    refine awp_seq ?_
    refine awp_region ?_
    refine sq_emptyarr rfl rfl rfl rfl Try.underlying55 Try.sizeOf3 ?_
    intro v17
    refine sq_plain rfl rfl rfl (w_assign rfl (ev_tmp rfl)) ?_
    refine sq_nil ?_
    refine awp_seq ?_
    refine awp_seq ?_
    refine awp_region ?_
    refine sq_plain rfl rfl rfl (w_fldBn 0 rfl Try.underlying74 rfl Try.sizeOf72 (ev_tmp rfl) rfl) ?_
    refine sq_plain rfl rfl rfl (w_loadB1 1 rfl (ev_tmp rfl) rfl Try.isAgg72 rfl) ?_
    refine sq_plain rfl rfl rfl (w_llen rfl Try.underlying72 (ev_tmp rfl)) ?_
    refine sq_plain rfl rfl rfl (w_move rfl ev_ci) ?_
    refine sq_nil ?_
    refine awp_block ?_
    refine awp_loop_i2 [(1, _), (4, _), (5, _), (19, _), (20, _)] _ (fun (i : Nat) (v : Value) => i ≤ a.Maps.length) (fun (i : Nat) (v : Value) => [.arr v 3 1 (((a.Maps.take i).map fun p => gAt p (partOf p.Cuts key)).map fun x => [AV.int x])]) (fun (i : Nat) (v : Value) => [(6, AV.is v), (21, AV.int i)]) (fun (i : Nat) (v : Value) => a.Maps.length - i) (0) (v17) ?_ (le_eq (by rfl) ⟨rfl, rfl, rfl, rfl, rfl, rfl, rfl, trivial⟩) ?_
    · exact Nat.zero_le _
    intro i v hinv
    refine awp_seq ?_
    refine awp_region ?_
    refine sq_plain rfl rfl rfl (w_lss rfl (ev_tmp rfl) (ev_tmp rfl)) ?_
    refine sq_nil ?_
    refine awp_seq ?_
    refine awp_cond (ev_tmp rfl) ?_ ?_
    · intro h22
      have k22 := of_decide_eq_true h22; try simp only [List.length_map] at k22
      have hlt : i < a.Maps.length := by omega
      obtain ⟨x, hx⟩ := get_some hlt
      have hsx := map_size hs hx
      have hgx := good_maps hg hx
      refine awp_skip ?_
      refine awp_seq ?_
      refine awp_block ?_
      refine awp_seq ?_
      refine awp_region ?_
      refine sq_plain rfl rfl rfl (w_idxm rfl Try.underlying72 Try.sizeOf57 (ev_tmp rfl) (ev_tmp rfl) hx (by first | omega | ((try simp only [List.length_map, List.length_take, List.length_cons, List.length_nil, chunks_len, szR] at *); omega) | (have hc2 := hc; simp only [Bool.and_eq_true, Bool.or_eq_true, Bool.or_eq_false_iff, Bool.and_eq_false_iff, Bool.not_eq_true', Bool.not_eq_false', decide_eq_true_eq, decide_eq_false_iff_not, beq_iff_eq, bne_iff_ne, List.length_map, List.length_take] at hc2; omega))) ?_
      refine sq_plain rfl rfl rfl (w_loadE rfl (ev_tmp rfl) Try.isAgg57 Try.sizeOf57) ?_
      refine sq_alloc rfl rfl rfl rfl Try.zeroValue57 rfl ?_
      intro b8
      refine sq_storeB0 0 rfl rfl rfl (ev_tmp rfl) (ev_tmp rfl) (as_agg _) rfl Try.sizeOf57 rfl ?_
      refine sq_nil ?_
      refine awp_region ?_
      refine sq_plain rfl rfl rfl (w_move rfl (ev_tmp rfl)) ?_
      refine sq_plain rfl rfl rfl (w_loadA 0 rfl (ev_tmp rfl) rfl Try.isAgg57 Try.sizeOf57 rfl) ?_
      refine sq_plain rfl rfl rfl (w_move rfl (ev_tmp rfl)) ?_
      refine sq_plain rfl rfl rfl (w_call rfl Try.call118 rfl (owner_spec _ _ (by first | assumption | omega) (by assumption)) (evl_cons (ev_tmp rfl) (evl_cons (ev_tmp rfl) evl_nil))) ?_
      refine sq_plain rfl rfl rfl (w_bslice rfl Try.underlying55 Try.sizeOf3 Try.zeroValue3 rfl rfl rfl rfl (bp_cons (ev_tmp rfl) (as_ik _ _) bp_nil) rfl rfl) ?_
      refine sq_append (by' := 8) 1 rfl rfl rfl rfl Try.underlying55 Try.type3 rfl rfl rfl rfl rfl rfl (ev_tmp rfl) (ev_tmp rfl) rfl (by first | omega | ((try simp only [List.length_map, List.length_take, List.length_cons, List.length_nil, chunks_len, szR] at *); omega) | (have hc2 := hc; simp only [Bool.and_eq_true, Bool.or_eq_true, Bool.or_eq_false_iff, Bool.and_eq_false_iff, Bool.not_eq_true', Bool.not_eq_false', decide_eq_true_eq, decide_eq_false_iff_not, beq_iff_eq, bne_iff_ne, List.length_map, List.length_take] at hc2; omega)) ?_
      intro v30_2
      refine sq_plain rfl rfl rfl (w_assign rfl (ev_tmp rfl)) ?_
      refine sq_nil ?_
      refine awp_region ?_
      refine sq_plain rfl rfl rfl (w_addi rfl (ev_tmp rfl) ev_ci (by first | omega | ((try simp only [List.length_map, List.length_take, List.length_cons, List.length_nil, chunks_len, szR] at *); omega) | (have hc2 := hc; simp only [Bool.and_eq_true, Bool.or_eq_true, Bool.or_eq_false_iff, Bool.and_eq_false_iff, Bool.not_eq_true', Bool.not_eq_false', decide_eq_true_eq, decide_eq_false_iff_not, beq_iff_eq, bne_iff_ne, List.length_map, List.length_take] at hc2; omega))) ?_
      refine sq_plain rfl rfl rfl (w_move rfl (ev_tmp rfl)) ?_
      refine sq_nil ?_
      refine round_end2 i v (i + 1) (v30_2) ?_ ?_ (le_dropeq 1 (by exact congrArg (fun z => Own.arr _ _ _ z :: _) (map_snoc2 _ _ hx)) ⟨rfl, rfl, rfl, rfl, rfl, rfl, rfl, trivial⟩)
      · omega
      · omega
    · intro h22
      have k22 := of_decide_eq_false h22; try simp only [List.length_map] at k22
      have hge : a.Maps.length ≤ i := by omega
      rw [List.take_of_length_le hge]
      refine awp_exit ?_
      refine awp_seq ?_
      refine awp_region ?_
      refine sq_plain rfl rfl rfl (w_move rfl (ev_tmp rfl)) ?_
      refine sq_plain rfl rfl rfl (w_assign rfl (ev_tmp rfl)) ?_
      refine sq_plain rfl rfl rfl (w_assign rfl ev_cb) ?_
      refine sq_nil ?_
      refine awp_ret ?_
      first | exact retG [0] v17 (trivial) rfl (by rfl) (resN rfl (by decide) (rv_cons (rv_tmp' rfl (by rfl)) (rv_cons (rv_tmp' rfl (by rfl)) rv_nil))) | exact retG [0] (v) (trivial) rfl (by rfl) (resN rfl (by decide) (rv_cons (rv_tmp' rfl (by rfl)) (rv_cons (rv_tmp' rfl (by rfl)) rv_nil)))
theorem ownersOfS_own (a : TAtlas) (key : Str) (hs : a.size ≤ 1048576) (hk : key.length ≤ 1048576) : GSpec Try.prog 42 [AV.agg a.cs, AV.str key] [] (fun _ : Value => True) (fun v => [.arr v 3 1 ((ownersOfRS a key).1.map fun x => [AV.int x])]) (fun v => AV.tup [AV.is v, AV.bool (ownersOfRS a key).2]) := by
  refine gspec_of_awp Try.func42 rfl Try.ntmps42 rfl ?_
  refine awp_seq ?_
  refine awp_region ?_
  refine sq_box rfl rfl rfl rfl (ev_tmp rfl) ?_
  intro b2
  refine sq_plain rfl rfl rfl (w_assign rfl ev_cnils) ?_
  refine sq_plain rfl rfl rfl (w_assign rfl ev_cb) ?_
  refine sq_nil ?_
  refine awp_seq ?_
  refine awp_seq ?_
  refine awp_region ?_
  refine sq_plain rfl rfl rfl (w_loadA 0 rfl (ev_tmp rfl) rfl Try.isAgg74 Try.sizeOf74 rfl) ?_
  refine sq_plain rfl rfl rfl (w_call rfl Try.call45 rfl (goodAtlasS_spec _ (by first | assumption | omega)) (evl_cons (ev_tmp rfl) evl_nil)) ?_
  refine sq_plain rfl rfl rfl (w_not rfl (ev_tmp rfl)) ?_
  refine sq_plain rfl rfl rfl (w_move rfl (ev_tmp rfl)) ?_
  refine sq_grd rfl rfl (guard_f rfl rfl rfl) (fun hc => w_move rfl (ev_tmp rfl)) ?_
  refine sq_grd rfl rfl (guard_f rfl rfl rfl) (fun hc => w_call rfl Try.call77 rfl (l3Key_spec _ (by omega)) (evl_cons (ev_whn rfl hc) evl_nil)) ?_
  refine sq_grd rfl rfl (guard_f rfl rfl rfl) (fun hc => w_not rfl (ev_whn rfl hc)) ?_
  refine sq_plain rfl rfl rfl (w_or rfl (ev_tmp rfl) (evif_w rfl)) ?_
  refine sq_nil ?_
  refine awp_cond (ev_tmp rfl) ?_ ?_
  · intro h16
    have he : ownersOfRS a key = ([], false) := by unfold ownersOfRS; rw [if_pos h16]
    rw [he]
    refine awp_seq ?_
    refine awp_region ?_
    refine sq_plain rfl rfl rfl (w_assign rfl ev_cnils) ?_
    refine sq_plain rfl rfl rfl (w_assign rfl ev_cb) ?_
    refine sq_nil ?_
    refine awp_ret ?_
    refine retG_nil 3 1 ?_
    first | exact retG [0] (Value.slice none 0 0) (trivial) rfl (by rfl) (resN rfl (by decide) (rv_cons (rv_tmp' rfl (by rfl)) (rv_cons (rv_tmp' rfl (by rfl)) rv_nil))) | exact retG [0] (v) (trivial) rfl (by rfl) (resN rfl (by decide) (rv_cons (rv_tmp' rfl (by rfl)) (rv_cons (rv_tmp' rfl (by rfl)) rv_nil)))
  · intro h16
    have he : ownersOfRS a key = (ownersOfS a key, true) := by unfold ownersOfRS; rw [if_neg (by rw [h16]; decide)]
    rw [he]
    have hg : goodAtlas a = true := by rw [goodAtlas_eq]; revert h16; cases goodAtlasS a <;> simp
    have hml := (atlas_facts hg).2.1
    refine awp_skip ?_
    refine awp_seq ?_
    refine awp_region ?_
    refine sq_nilarr 3 1 rfl rfl rfl rfl ev_cnils ?_
    intro v6
    refine sq_nil ?_
    refine awp_seq ?_
    refine awp_seq ?_
    refine awp_region ?_
    refine sq_plain rfl rfl rfl (w_fldBn 0 rfl Try.underlying74 rfl Try.sizeOf72 (ev_tmp rfl) rfl) ?_
    refine sq_plain rfl rfl rfl (w_loadB1 1 rfl (ev_tmp rfl) rfl Try.isAgg72 rfl) ?_
    refine sq_plain rfl rfl rfl (w_llen rfl Try.underlying72 (ev_tmp rfl)) ?_
    refine sq_plain rfl rfl rfl (w_move rfl ev_ci) ?_
    refine sq_nil ?_
    refine awp_block ?_
    refine awp_loop_i2 [(1, _), (4, _), (5, _), (18, _), (19, _)] _ (fun (i : Nat) (v : Value) => i ≤ a.Maps.length) (fun (i : Nat) (v : Value) => [.arr v 3 1 (((a.Maps.take i).map fun p => gAt p (rangeS p.Cuts key)).map fun x => [AV.int x])]) (fun (i : Nat) (v : Value) => [(6, AV.is v), (20, AV.int i)]) (fun (i : Nat) (v : Value) => a.Maps.length - i) (0) (v6) ?_ (le_eq (by rfl) ⟨rfl, rfl, rfl, rfl, rfl, rfl, rfl, trivial⟩) ?_
    · exact Nat.zero_le _
    intro i v hinv
    refine awp_seq ?_
    refine awp_region ?_
    refine sq_plain rfl rfl rfl (w_lss rfl (ev_tmp rfl) (ev_tmp rfl)) ?_
    refine sq_nil ?_
    refine awp_seq ?_
    refine awp_cond (ev_tmp rfl) ?_ ?_
    · intro h21
      have k21 := of_decide_eq_true h21; try simp only [List.length_map] at k21
      have hlt : i < a.Maps.length := by omega
      obtain ⟨x, hx⟩ := get_some hlt
      have hsx := map_size hs hx
      have hgx := good_maps hg hx
      refine awp_skip ?_
      refine awp_seq ?_
      refine awp_block ?_
      refine awp_seq ?_
      refine awp_region ?_
      refine sq_plain rfl rfl rfl (w_idxm rfl Try.underlying72 Try.sizeOf57 (ev_tmp rfl) (ev_tmp rfl) hx (by first | omega | ((try simp only [List.length_map, List.length_take, List.length_cons, List.length_nil, chunks_len, szR] at *); omega) | (have hc2 := hc; simp only [Bool.and_eq_true, Bool.or_eq_true, Bool.or_eq_false_iff, Bool.and_eq_false_iff, Bool.not_eq_true', Bool.not_eq_false', decide_eq_true_eq, decide_eq_false_iff_not, beq_iff_eq, bne_iff_ne, List.length_map, List.length_take] at hc2; omega))) ?_
      refine sq_plain rfl rfl rfl (w_loadE rfl (ev_tmp rfl) Try.isAgg57 Try.sizeOf57) ?_
      refine sq_alloc rfl rfl rfl rfl Try.zeroValue57 rfl ?_
      intro b8
      refine sq_storeB0 0 rfl rfl rfl (ev_tmp rfl) (ev_tmp rfl) (as_agg _) rfl Try.sizeOf57 rfl ?_
      refine sq_nil ?_
      refine awp_region ?_
      refine sq_plain rfl rfl rfl (w_move rfl (ev_tmp rfl)) ?_
      refine sq_plain rfl rfl rfl (w_loadA 0 rfl (ev_tmp rfl) rfl Try.isAgg57 Try.sizeOf57 rfl) ?_
      refine sq_plain rfl rfl rfl (w_move rfl (ev_tmp rfl)) ?_
      refine sq_plain rfl rfl rfl (w_call rfl Try.call121 rfl (l20Group_spec _ _ (by first | assumption | omega) (by assumption)) (evl_cons (ev_tmp rfl) (evl_cons (ev_tmp rfl) evl_nil))) ?_
      refine sq_plain rfl rfl rfl (w_bslice rfl Try.underlying55 Try.sizeOf3 Try.zeroValue3 rfl rfl rfl rfl (bp_cons (ev_tmp rfl) (as_ik _ _) bp_nil) rfl rfl) ?_
      refine sq_append (by' := 8) 1 rfl rfl rfl rfl Try.underlying55 Try.type3 rfl rfl rfl rfl rfl rfl (ev_tmp rfl) (ev_tmp rfl) rfl (by first | omega | ((try simp only [List.length_map, List.length_take, List.length_cons, List.length_nil, chunks_len, szR] at *); omega) | (have hc2 := hc; simp only [Bool.and_eq_true, Bool.or_eq_true, Bool.or_eq_false_iff, Bool.and_eq_false_iff, Bool.not_eq_true', Bool.not_eq_false', decide_eq_true_eq, decide_eq_false_iff_not, beq_iff_eq, bne_iff_ne, List.length_map, List.length_take] at hc2; omega)) ?_
      intro v29_2
      refine sq_plain rfl rfl rfl (w_assign rfl (ev_tmp rfl)) ?_
      refine sq_nil ?_
      refine awp_region ?_
      refine sq_plain rfl rfl rfl (w_addi rfl (ev_tmp rfl) ev_ci (by first | omega | ((try simp only [List.length_map, List.length_take, List.length_cons, List.length_nil, chunks_len, szR] at *); omega) | (have hc2 := hc; simp only [Bool.and_eq_true, Bool.or_eq_true, Bool.or_eq_false_iff, Bool.and_eq_false_iff, Bool.not_eq_true', Bool.not_eq_false', decide_eq_true_eq, decide_eq_false_iff_not, beq_iff_eq, bne_iff_ne, List.length_map, List.length_take] at hc2; omega))) ?_
      refine sq_plain rfl rfl rfl (w_move rfl (ev_tmp rfl)) ?_
      refine sq_nil ?_
      refine round_end2 i v (i + 1) (v29_2) ?_ ?_ (le_dropeq 1 (by exact congrArg (fun z => Own.arr _ _ _ z :: _) (map_snoc2 _ _ hx)) ⟨rfl, rfl, rfl, rfl, rfl, rfl, rfl, trivial⟩)
      · omega
      · omega
    · intro h21
      have k21 := of_decide_eq_false h21; try simp only [List.length_map] at k21
      have hge : a.Maps.length ≤ i := by omega
      rw [List.take_of_length_le hge]
      refine awp_exit ?_
      refine awp_seq ?_
      refine awp_region ?_
      refine sq_plain rfl rfl rfl (w_move rfl (ev_tmp rfl)) ?_
      refine sq_plain rfl rfl rfl (w_assign rfl (ev_tmp rfl)) ?_
      refine sq_plain rfl rfl rfl (w_assign rfl ev_cb) ?_
      refine sq_nil ?_
      refine awp_ret ?_
      first | exact retG [0] v6 (trivial) rfl (by rfl) (resN rfl (by decide) (rv_cons (rv_tmp' rfl (by rfl)) (rv_cons (rv_tmp' rfl (by rfl)) rv_nil))) | exact retG [0] (v) (trivial) rfl (by rfl) (resN rfl (by decide) (rv_cons (rv_tmp' rfl (by rfl)) (rv_cons (rv_tmp' rfl (by rfl)) rv_nil)))
theorem ownersOfS_spec (a : TAtlas) (key : Str) (hs : a.size ≤ 1048576) (hk : key.length ≤ 1048576) : FSpec Try.prog 42 [AV.agg a.cs, AV.str key] (AV.tup [ints (ownersOfRS a key).1, AV.bool (ownersOfRS a key).2]) :=
  fspec_of_gspec (ownersOfS_own a key hs hk) fun x _ => lt_tup (lc_cons (lt_arr (List.mem_singleton.2 rfl) le_refl_e) (lc_cons lt_refl lc_nil))
theorem newAtlas_own (p : TPlaces) (hs : p.size ≤ 1048576) : GSpec Try.prog 55 [AV.agg p.cs] [] (fun x : Value × Value × List (Value × Value) => x.2.2.length = (newAtlas p).1.Maps.length) (fun x => TAtlas.ow (newAtlas p).1 x) (fun x => AV.tup [AV.agg (TAtlas.ocs (newAtlas p).1 x), AV.bool (newAtlas p).2]) := by
  refine gspec_of_awp Try.func55 rfl Try.ntmps55 rfl ?_
  refine awp_seq ?_
  refine awp_region ?_
  refine sq_box rfl rfl rfl rfl (ev_tmp rfl) ?_
  intro b1
  refine sq_alloc rfl rfl rfl rfl Try.zeroValue74 rfl ?_
  intro b2
  refine sq_plain rfl rfl rfl (w_assign rfl ev_cb) ?_
  refine sq_nil ?_
  refine awp_seq ?_
  refine awp_seq ?_
  refine awp_region ?_
  refine sq_plain rfl rfl rfl (w_loadA 1 rfl (ev_tmp rfl) rfl Try.isAgg57 Try.sizeOf57 rfl) ?_
  refine sq_plain rfl rfl rfl (w_call rfl Try.call34 rfl (goodPlaces_spec _ (by first | assumption | omega)) (evl_cons (ev_tmp rfl) evl_nil)) ?_
  refine sq_plain rfl rfl rfl (w_not rfl (ev_tmp rfl)) ?_
  refine sq_nil ?_
  refine awp_cond (ev_tmp rfl) ?_ ?_
  · intro h6
    have he : newAtlas p = (⟨[], []⟩, false) := by unfold newAtlas; rw [if_pos h6]
    rw [he]
    refine awp_seq ?_
    refine awp_region ?_
    refine sq_plain rfl rfl rfl (w_build (places := #[(0, 1), (1, 1)]) rfl Try.underlying74 Try.zeroValue74 (fun w => by kernel_rfl) rfl bp_nil rfl) ?_
    refine sq_storeB0 0 rfl rfl rfl (ev_tmp rfl) (ev_tmp rfl) (as_agg _) rfl Try.sizeOf74 rfl ?_
    refine sq_plain rfl rfl rfl (w_assign rfl ev_cb) ?_
    refine sq_nil ?_
    refine awp_ret ?_
    refine retG_nil 57 3 ?_
    refine retG_nil 3 1 ?_
    first | exact retG [1, 0] ((Value.slice none 0 0), (Value.slice none 0 0), []) (rfl) rfl (by rfl) (resN rfl (by decide) (rv_cons (rv_cell (ys := _) 2 rfl rfl Try.isAgg74 Try.sizeOf74 rfl) (rv_cons (rv_tmp' rfl (by first | rfl | (refine congrArg AV.bool ?_; simp_all; done))) rv_nil))) | exact retG [1, 0] ((Value.slice none 0 0), (Value.slice none 0 0), [x9]) (rfl) rfl (by rfl) (resN rfl (by decide) (rv_cons (rv_cell (ys := _) 2 rfl rfl Try.isAgg74 Try.sizeOf74 rfl) (rv_cons (rv_tmp' rfl (by first | rfl | (refine congrArg AV.bool ?_; simp_all; done))) rv_nil)))
  · intro h6
    have he : newAtlas p = (⟨[p], [0, 0, 0, 0]⟩, true) := by unfold newAtlas; rw [if_neg (by rw [h6]; decide)]
    rw [he]
    refine awp_skip ?_
    refine awp_seq ?_
    refine awp_region_tree _ 4 (.pure 0 (.e2 1 (.e2 2 (.e1 3 .nil) 3 (.e1 2 .nil)) 3 (.e1 1 (.e1 2 .nil)))) (by kernel_rfl) (by kernel_rfl) rfl invx_self ?_
    refine bt_plain rfl rfl rfl (fun ext => w_loadA 1 rfl (ev_tmp rfl) rfl Try.isAgg57 Try.sizeOf57 rfl) ?_
    refine bt_e2 ?_ ?_
    · refine eff_s rfl rfl rfl (opE_call [] rfl Try.call95 rfl (copyPlaces_own _ (by first | assumption | omega)) (evl_cons (ev_tmp rfl) evl_nil) rfl) (fun a _ => (by first | exact invx_mk rfl | exact invx_mk (List.append_assoc _ _ _) | exact invx_all)) ?_
      intro x9 ok9
      refine bt_e2 ?_ ?_
      · refine eff_s rfl rfl rfl (opE_bslice rfl Try.underlying72 Try.sizeOf57 Try.zeroValue57 rfl rfl rfl rfl (bp_cons (ev_tmp rfl) (as_agg _) bp_nil) rfl rfl) (fun a _ => (by first | exact invx_mk rfl | exact invx_mk (List.append_assoc _ _ _) | exact invx_all)) ?_
        intro v10 _
        refine bt_e1 ?_
        refine eff_s rfl rfl rfl (opE_make (by' := 8) rfl Try.underlying55 Try.type3 rfl rfl rfl rfl rfl rfl ev_ci ev_ci (by first | omega | ((try simp only [List.length_map, List.length_take, List.length_cons, List.length_nil, chunks_len, szR] at *); omega) | (have hc2 := hc; simp only [Bool.and_eq_true, Bool.or_eq_true, Bool.or_eq_false_iff, Bool.and_eq_false_iff, Bool.not_eq_true', Bool.not_eq_false', decide_eq_true_eq, decide_eq_false_iff_not, beq_iff_eq, bne_iff_ne, List.length_map, List.length_take] at hc2; omega)) (by first | omega | ((try simp only [List.length_map, List.length_take, List.length_cons, List.length_nil, chunks_len, szR] at *); omega) | (have hc2 := hc; simp only [Bool.and_eq_true, Bool.or_eq_true, Bool.or_eq_false_iff, Bool.and_eq_false_iff, Bool.not_eq_true', Bool.not_eq_false', decide_eq_true_eq, decide_eq_false_iff_not, beq_iff_eq, bne_iff_ne, List.length_map, List.length_take] at hc2; omega))) (fun a _ => (by first | exact invx_mk rfl | exact invx_mk (List.append_assoc _ _ _) | exact invx_all)) ?_
        intro v11 _
        refine bt_nil ?_
        refine sq_fact 4 rfl fun one_v10 => ?_
        refine sq_fact 5 rfl fun one_v11 => ?_
        refine sq_plain rfl rfl rfl (w_build (places := #[(0, 1), (1, 1)]) rfl Try.underlying74 Try.zeroValue74 (fun w => by kernel_rfl) rfl (bp_cons (ev_tmp rfl) (as_is one_v10) (bp_cons (ev_tmp rfl) (as_is one_v11) bp_nil)) rfl) ?_
        refine sq_storeB0 0 rfl rfl rfl (ev_tmp rfl) (ev_tmp rfl) (as_agg _) rfl Try.sizeOf74 rfl ?_
        refine sq_plain rfl rfl rfl (w_assign rfl ev_cb) ?_
        refine sq_nil ?_
        refine awp_ret ?_
        first | exact retG [4, 4, 2, 2] (v10, v11, []) (rfl) rfl (by rfl) (resN rfl (by decide) (rv_cons (rv_cell (ys := _) 0 rfl rfl Try.isAgg74 Try.sizeOf74 rfl) (rv_cons (rv_tmp' rfl (by first | rfl | (refine congrArg AV.bool ?_; simp_all; done))) rv_nil))) | exact retG [4, 4, 2, 2] (v10, v11, [x9]) (rfl) rfl (by rfl) (resN rfl (by decide) (rv_cons (rv_cell (ys := _) 0 rfl rfl Try.isAgg74 Try.sizeOf74 rfl) (rv_cons (rv_tmp' rfl (by first | rfl | (refine congrArg AV.bool ?_; simp_all; done))) rv_nil)))
      · refine eff_s rfl rfl rfl (opE_make (by' := 8) rfl Try.underlying55 Try.type3 rfl rfl rfl rfl rfl rfl ev_ci ev_ci (by first | omega | ((try simp only [List.length_map, List.length_take, List.length_cons, List.length_nil, chunks_len, szR] at *); omega) | (have hc2 := hc; simp only [Bool.and_eq_true, Bool.or_eq_true, Bool.or_eq_false_iff, Bool.and_eq_false_iff, Bool.not_eq_true', Bool.not_eq_false', decide_eq_true_eq, decide_eq_false_iff_not, beq_iff_eq, bne_iff_ne, List.length_map, List.length_take] at hc2; omega)) (by first | omega | ((try simp only [List.length_map, List.length_take, List.length_cons, List.length_nil, chunks_len, szR] at *); omega) | (have hc2 := hc; simp only [Bool.and_eq_true, Bool.or_eq_true, Bool.or_eq_false_iff, Bool.and_eq_false_iff, Bool.not_eq_true', Bool.not_eq_false', decide_eq_true_eq, decide_eq_false_iff_not, beq_iff_eq, bne_iff_ne, List.length_map, List.length_take] at hc2; omega))) (fun a _ => (by first | exact invx_mk rfl | exact invx_mk (List.append_assoc _ _ _) | exact invx_all)) ?_
        intro v11 _
        refine bt_e1 ?_
        refine eff_s rfl rfl rfl (opE_bslice rfl Try.underlying72 Try.sizeOf57 Try.zeroValue57 rfl rfl rfl rfl (bp_cons (ev_tmp rfl) (as_agg _) bp_nil) rfl rfl) (fun a _ => (by first | exact invx_mk rfl | exact invx_mk (List.append_assoc _ _ _) | exact invx_all)) ?_
        intro v10 _
        refine bt_nil ?_
        refine sq_fact 5 rfl fun one_v10 => ?_
        refine sq_fact 4 rfl fun one_v11 => ?_
        refine sq_plain rfl rfl rfl (w_build (places := #[(0, 1), (1, 1)]) rfl Try.underlying74 Try.zeroValue74 (fun w => by kernel_rfl) rfl (bp_cons (ev_tmp rfl) (as_is one_v10) (bp_cons (ev_tmp rfl) (as_is one_v11) bp_nil)) rfl) ?_
        refine sq_storeB0 0 rfl rfl rfl (ev_tmp rfl) (ev_tmp rfl) (as_agg _) rfl Try.sizeOf74 rfl ?_
        refine sq_plain rfl rfl rfl (w_assign rfl ev_cb) ?_
        refine sq_nil ?_
        refine awp_ret ?_
        first | exact retG [5, 4, 2, 2] (v10, v11, []) (rfl) rfl (by rfl) (resN rfl (by decide) (rv_cons (rv_cell (ys := _) 0 rfl rfl Try.isAgg74 Try.sizeOf74 rfl) (rv_cons (rv_tmp' rfl (by first | rfl | (refine congrArg AV.bool ?_; simp_all; done))) rv_nil))) | exact retG [5, 4, 2, 2] (v10, v11, [x9]) (rfl) rfl (by rfl) (resN rfl (by decide) (rv_cons (rv_cell (ys := _) 0 rfl rfl Try.isAgg74 Try.sizeOf74 rfl) (rv_cons (rv_tmp' rfl (by first | rfl | (refine congrArg AV.bool ?_; simp_all; done))) rv_nil)))
    · refine eff_s rfl rfl rfl (opE_make (by' := 8) rfl Try.underlying55 Try.type3 rfl rfl rfl rfl rfl rfl ev_ci ev_ci (by first | omega | ((try simp only [List.length_map, List.length_take, List.length_cons, List.length_nil, chunks_len, szR] at *); omega) | (have hc2 := hc; simp only [Bool.and_eq_true, Bool.or_eq_true, Bool.or_eq_false_iff, Bool.and_eq_false_iff, Bool.not_eq_true', Bool.not_eq_false', decide_eq_true_eq, decide_eq_false_iff_not, beq_iff_eq, bne_iff_ne, List.length_map, List.length_take] at hc2; omega)) (by first | omega | ((try simp only [List.length_map, List.length_take, List.length_cons, List.length_nil, chunks_len, szR] at *); omega) | (have hc2 := hc; simp only [Bool.and_eq_true, Bool.or_eq_true, Bool.or_eq_false_iff, Bool.and_eq_false_iff, Bool.not_eq_true', Bool.not_eq_false', decide_eq_true_eq, decide_eq_false_iff_not, beq_iff_eq, bne_iff_ne, List.length_map, List.length_take] at hc2; omega))) (fun a _ => (by first | exact invx_mk rfl | exact invx_mk (List.append_assoc _ _ _) | exact invx_all)) ?_
      intro v11 _
      refine bt_e1 ?_
      refine eff_s rfl rfl rfl (opE_call [] rfl Try.call95 rfl (copyPlaces_own _ (by first | assumption | omega)) (evl_cons (ev_tmp rfl) evl_nil) rfl) (fun a _ => (by first | exact invx_mk rfl | exact invx_mk (List.append_assoc _ _ _) | exact invx_all)) ?_
      intro x9 ok9
      refine bt_e1 ?_
      refine eff_s rfl rfl rfl (opE_bslice rfl Try.underlying72 Try.sizeOf57 Try.zeroValue57 rfl rfl rfl rfl (bp_cons (ev_tmp rfl) (as_agg _) bp_nil) rfl rfl) (fun a _ => (by first | exact invx_mk rfl | exact invx_mk (List.append_assoc _ _ _) | exact invx_all)) ?_
      intro v10 _
      refine bt_nil ?_
      refine sq_fact 5 rfl fun one_v10 => ?_
      refine sq_fact 2 rfl fun one_v11 => ?_
      refine sq_plain rfl rfl rfl (w_build (places := #[(0, 1), (1, 1)]) rfl Try.underlying74 Try.zeroValue74 (fun w => by kernel_rfl) rfl (bp_cons (ev_tmp rfl) (as_is one_v10) (bp_cons (ev_tmp rfl) (as_is one_v11) bp_nil)) rfl) ?_
      refine sq_storeB0 0 rfl rfl rfl (ev_tmp rfl) (ev_tmp rfl) (as_agg _) rfl Try.sizeOf74 rfl ?_
      refine sq_plain rfl rfl rfl (w_assign rfl ev_cb) ?_
      refine sq_nil ?_
      refine awp_ret ?_
      first | exact retG [5, 2, 2, 2] (v10, v11, []) (rfl) rfl (by rfl) (resN rfl (by decide) (rv_cons (rv_cell (ys := _) 0 rfl rfl Try.isAgg74 Try.sizeOf74 rfl) (rv_cons (rv_tmp' rfl (by first | rfl | (refine congrArg AV.bool ?_; simp_all; done))) rv_nil))) | exact retG [5, 2, 2, 2] (v10, v11, [x9]) (rfl) rfl (by rfl) (resN rfl (by decide) (rv_cons (rv_cell (ys := _) 0 rfl rfl Try.isAgg74 Try.sizeOf74 rfl) (rv_cons (rv_tmp' rfl (by first | rfl | (refine congrArg AV.bool ?_; simp_all; done))) rv_nil)))
theorem newAtlasS_own (p : TPlaces) (hs : p.size ≤ 1048576) : GSpec Try.prog 56 [AV.agg p.cs] [] (fun x : Value × Value × List (Value × Value) => x.2.2.length = (newAtlasS p).1.Maps.length) (fun x => TAtlas.ow (newAtlasS p).1 x) (fun x => AV.tup [AV.agg (TAtlas.ocs (newAtlasS p).1 x), AV.bool (newAtlasS p).2]) := by
  refine gspec_of_awp Try.func56 rfl Try.ntmps56 rfl ?_
  refine awp_seq ?_
  refine awp_region ?_
  refine sq_box rfl rfl rfl rfl (ev_tmp rfl) ?_
  intro b1
  refine sq_alloc rfl rfl rfl rfl Try.zeroValue74 rfl ?_
  intro b2
  refine sq_plain rfl rfl rfl (w_assign rfl ev_cb) ?_
  refine sq_nil ?_
  refine awp_seq ?_
  refine awp_seq ?_
  refine awp_region ?_
  refine sq_plain rfl rfl rfl (w_loadA 1 rfl (ev_tmp rfl) rfl Try.isAgg57 Try.sizeOf57 rfl) ?_
  refine sq_plain rfl rfl rfl (w_call rfl Try.call35 rfl (goodPlacesS_spec _ (by first | assumption | omega)) (evl_cons (ev_tmp rfl) evl_nil)) ?_
  refine sq_plain rfl rfl rfl (w_not rfl (ev_tmp rfl)) ?_
  refine sq_nil ?_
  refine awp_cond (ev_tmp rfl) ?_ ?_
  · intro h6
    have he : newAtlasS p = (⟨[], []⟩, false) := by unfold newAtlasS; rw [if_pos h6]
    rw [he]
    refine awp_seq ?_
    refine awp_region ?_
    refine sq_plain rfl rfl rfl (w_build (places := #[(0, 1), (1, 1)]) rfl Try.underlying74 Try.zeroValue74 (fun w => by kernel_rfl) rfl bp_nil rfl) ?_
    refine sq_storeB0 0 rfl rfl rfl (ev_tmp rfl) (ev_tmp rfl) (as_agg _) rfl Try.sizeOf74 rfl ?_
    refine sq_plain rfl rfl rfl (w_assign rfl ev_cb) ?_
    refine sq_nil ?_
    refine awp_ret ?_
    refine retG_nil 57 3 ?_
    refine retG_nil 3 1 ?_
    first | exact retG [1, 0] ((Value.slice none 0 0), (Value.slice none 0 0), []) (rfl) rfl (by rfl) (resN rfl (by decide) (rv_cons (rv_cell (ys := _) 2 rfl rfl Try.isAgg74 Try.sizeOf74 rfl) (rv_cons (rv_tmp' rfl (by first | rfl | (refine congrArg AV.bool ?_; simp_all; done))) rv_nil))) | exact retG [1, 0] ((Value.slice none 0 0), (Value.slice none 0 0), [x9]) (rfl) rfl (by rfl) (resN rfl (by decide) (rv_cons (rv_cell (ys := _) 2 rfl rfl Try.isAgg74 Try.sizeOf74 rfl) (rv_cons (rv_tmp' rfl (by first | rfl | (refine congrArg AV.bool ?_; simp_all; done))) rv_nil)))
  · intro h6
    have he : newAtlasS p = (⟨[p], [0, 0, 0, 0]⟩, true) := by unfold newAtlasS; rw [if_neg (by rw [h6]; decide)]
    rw [he]
    refine awp_skip ?_
    refine awp_seq ?_
    refine awp_region_tree _ 4 (.pure 0 (.e2 1 (.e2 2 (.e1 3 .nil) 3 (.e1 2 .nil)) 3 (.e1 1 (.e1 2 .nil)))) (by kernel_rfl) (by kernel_rfl) rfl invx_self ?_
    refine bt_plain rfl rfl rfl (fun ext => w_loadA 1 rfl (ev_tmp rfl) rfl Try.isAgg57 Try.sizeOf57 rfl) ?_
    refine bt_e2 ?_ ?_
    · refine eff_s rfl rfl rfl (opE_call [] rfl Try.call108 rfl (l20Own_own _ (by first | assumption | omega)) (evl_cons (ev_tmp rfl) evl_nil) rfl) (fun a _ => (by first | exact invx_mk rfl | exact invx_mk (List.append_assoc _ _ _) | exact invx_all)) ?_
      intro x9 ok9
      refine bt_e2 ?_ ?_
      · refine eff_s rfl rfl rfl (opE_bslice rfl Try.underlying72 Try.sizeOf57 Try.zeroValue57 rfl rfl rfl rfl (bp_cons (ev_tmp rfl) (as_agg _) bp_nil) rfl rfl) (fun a _ => (by first | exact invx_mk rfl | exact invx_mk (List.append_assoc _ _ _) | exact invx_all)) ?_
        intro v10 _
        refine bt_e1 ?_
        refine eff_s rfl rfl rfl (opE_make (by' := 8) rfl Try.underlying55 Try.type3 rfl rfl rfl rfl rfl rfl ev_ci ev_ci (by first | omega | ((try simp only [List.length_map, List.length_take, List.length_cons, List.length_nil, chunks_len, szR] at *); omega) | (have hc2 := hc; simp only [Bool.and_eq_true, Bool.or_eq_true, Bool.or_eq_false_iff, Bool.and_eq_false_iff, Bool.not_eq_true', Bool.not_eq_false', decide_eq_true_eq, decide_eq_false_iff_not, beq_iff_eq, bne_iff_ne, List.length_map, List.length_take] at hc2; omega)) (by first | omega | ((try simp only [List.length_map, List.length_take, List.length_cons, List.length_nil, chunks_len, szR] at *); omega) | (have hc2 := hc; simp only [Bool.and_eq_true, Bool.or_eq_true, Bool.or_eq_false_iff, Bool.and_eq_false_iff, Bool.not_eq_true', Bool.not_eq_false', decide_eq_true_eq, decide_eq_false_iff_not, beq_iff_eq, bne_iff_ne, List.length_map, List.length_take] at hc2; omega))) (fun a _ => (by first | exact invx_mk rfl | exact invx_mk (List.append_assoc _ _ _) | exact invx_all)) ?_
        intro v11 _
        refine bt_nil ?_
        refine sq_fact 4 rfl fun one_v10 => ?_
        refine sq_fact 5 rfl fun one_v11 => ?_
        refine sq_plain rfl rfl rfl (w_build (places := #[(0, 1), (1, 1)]) rfl Try.underlying74 Try.zeroValue74 (fun w => by kernel_rfl) rfl (bp_cons (ev_tmp rfl) (as_is one_v10) (bp_cons (ev_tmp rfl) (as_is one_v11) bp_nil)) rfl) ?_
        refine sq_storeB0 0 rfl rfl rfl (ev_tmp rfl) (ev_tmp rfl) (as_agg _) rfl Try.sizeOf74 rfl ?_
        refine sq_plain rfl rfl rfl (w_assign rfl ev_cb) ?_
        refine sq_nil ?_
        refine awp_ret ?_
        first | exact retG [4, 4, 2, 2] (v10, v11, []) (rfl) rfl (by rfl) (resN rfl (by decide) (rv_cons (rv_cell (ys := _) 0 rfl rfl Try.isAgg74 Try.sizeOf74 rfl) (rv_cons (rv_tmp' rfl (by first | rfl | (refine congrArg AV.bool ?_; simp_all; done))) rv_nil))) | exact retG [4, 4, 2, 2] (v10, v11, [x9]) (rfl) rfl (by rfl) (resN rfl (by decide) (rv_cons (rv_cell (ys := _) 0 rfl rfl Try.isAgg74 Try.sizeOf74 rfl) (rv_cons (rv_tmp' rfl (by first | rfl | (refine congrArg AV.bool ?_; simp_all; done))) rv_nil)))
      · refine eff_s rfl rfl rfl (opE_make (by' := 8) rfl Try.underlying55 Try.type3 rfl rfl rfl rfl rfl rfl ev_ci ev_ci (by first | omega | ((try simp only [List.length_map, List.length_take, List.length_cons, List.length_nil, chunks_len, szR] at *); omega) | (have hc2 := hc; simp only [Bool.and_eq_true, Bool.or_eq_true, Bool.or_eq_false_iff, Bool.and_eq_false_iff, Bool.not_eq_true', Bool.not_eq_false', decide_eq_true_eq, decide_eq_false_iff_not, beq_iff_eq, bne_iff_ne, List.length_map, List.length_take] at hc2; omega)) (by first | omega | ((try simp only [List.length_map, List.length_take, List.length_cons, List.length_nil, chunks_len, szR] at *); omega) | (have hc2 := hc; simp only [Bool.and_eq_true, Bool.or_eq_true, Bool.or_eq_false_iff, Bool.and_eq_false_iff, Bool.not_eq_true', Bool.not_eq_false', decide_eq_true_eq, decide_eq_false_iff_not, beq_iff_eq, bne_iff_ne, List.length_map, List.length_take] at hc2; omega))) (fun a _ => (by first | exact invx_mk rfl | exact invx_mk (List.append_assoc _ _ _) | exact invx_all)) ?_
        intro v11 _
        refine bt_e1 ?_
        refine eff_s rfl rfl rfl (opE_bslice rfl Try.underlying72 Try.sizeOf57 Try.zeroValue57 rfl rfl rfl rfl (bp_cons (ev_tmp rfl) (as_agg _) bp_nil) rfl rfl) (fun a _ => (by first | exact invx_mk rfl | exact invx_mk (List.append_assoc _ _ _) | exact invx_all)) ?_
        intro v10 _
        refine bt_nil ?_
        refine sq_fact 5 rfl fun one_v10 => ?_
        refine sq_fact 4 rfl fun one_v11 => ?_
        refine sq_plain rfl rfl rfl (w_build (places := #[(0, 1), (1, 1)]) rfl Try.underlying74 Try.zeroValue74 (fun w => by kernel_rfl) rfl (bp_cons (ev_tmp rfl) (as_is one_v10) (bp_cons (ev_tmp rfl) (as_is one_v11) bp_nil)) rfl) ?_
        refine sq_storeB0 0 rfl rfl rfl (ev_tmp rfl) (ev_tmp rfl) (as_agg _) rfl Try.sizeOf74 rfl ?_
        refine sq_plain rfl rfl rfl (w_assign rfl ev_cb) ?_
        refine sq_nil ?_
        refine awp_ret ?_
        first | exact retG [5, 4, 2, 2] (v10, v11, []) (rfl) rfl (by rfl) (resN rfl (by decide) (rv_cons (rv_cell (ys := _) 0 rfl rfl Try.isAgg74 Try.sizeOf74 rfl) (rv_cons (rv_tmp' rfl (by first | rfl | (refine congrArg AV.bool ?_; simp_all; done))) rv_nil))) | exact retG [5, 4, 2, 2] (v10, v11, [x9]) (rfl) rfl (by rfl) (resN rfl (by decide) (rv_cons (rv_cell (ys := _) 0 rfl rfl Try.isAgg74 Try.sizeOf74 rfl) (rv_cons (rv_tmp' rfl (by first | rfl | (refine congrArg AV.bool ?_; simp_all; done))) rv_nil)))
    · refine eff_s rfl rfl rfl (opE_make (by' := 8) rfl Try.underlying55 Try.type3 rfl rfl rfl rfl rfl rfl ev_ci ev_ci (by first | omega | ((try simp only [List.length_map, List.length_take, List.length_cons, List.length_nil, chunks_len, szR] at *); omega) | (have hc2 := hc; simp only [Bool.and_eq_true, Bool.or_eq_true, Bool.or_eq_false_iff, Bool.and_eq_false_iff, Bool.not_eq_true', Bool.not_eq_false', decide_eq_true_eq, decide_eq_false_iff_not, beq_iff_eq, bne_iff_ne, List.length_map, List.length_take] at hc2; omega)) (by first | omega | ((try simp only [List.length_map, List.length_take, List.length_cons, List.length_nil, chunks_len, szR] at *); omega) | (have hc2 := hc; simp only [Bool.and_eq_true, Bool.or_eq_true, Bool.or_eq_false_iff, Bool.and_eq_false_iff, Bool.not_eq_true', Bool.not_eq_false', decide_eq_true_eq, decide_eq_false_iff_not, beq_iff_eq, bne_iff_ne, List.length_map, List.length_take] at hc2; omega))) (fun a _ => (by first | exact invx_mk rfl | exact invx_mk (List.append_assoc _ _ _) | exact invx_all)) ?_
      intro v11 _
      refine bt_e1 ?_
      refine eff_s rfl rfl rfl (opE_call [] rfl Try.call108 rfl (l20Own_own _ (by first | assumption | omega)) (evl_cons (ev_tmp rfl) evl_nil) rfl) (fun a _ => (by first | exact invx_mk rfl | exact invx_mk (List.append_assoc _ _ _) | exact invx_all)) ?_
      intro x9 ok9
      refine bt_e1 ?_
      refine eff_s rfl rfl rfl (opE_bslice rfl Try.underlying72 Try.sizeOf57 Try.zeroValue57 rfl rfl rfl rfl (bp_cons (ev_tmp rfl) (as_agg _) bp_nil) rfl rfl) (fun a _ => (by first | exact invx_mk rfl | exact invx_mk (List.append_assoc _ _ _) | exact invx_all)) ?_
      intro v10 _
      refine bt_nil ?_
      refine sq_fact 5 rfl fun one_v10 => ?_
      refine sq_fact 2 rfl fun one_v11 => ?_
      refine sq_plain rfl rfl rfl (w_build (places := #[(0, 1), (1, 1)]) rfl Try.underlying74 Try.zeroValue74 (fun w => by kernel_rfl) rfl (bp_cons (ev_tmp rfl) (as_is one_v10) (bp_cons (ev_tmp rfl) (as_is one_v11) bp_nil)) rfl) ?_
      refine sq_storeB0 0 rfl rfl rfl (ev_tmp rfl) (ev_tmp rfl) (as_agg _) rfl Try.sizeOf74 rfl ?_
      refine sq_plain rfl rfl rfl (w_assign rfl ev_cb) ?_
      refine sq_nil ?_
      refine awp_ret ?_
      first | exact retG [5, 2, 2, 2] (v10, v11, []) (rfl) rfl (by rfl) (resN rfl (by decide) (rv_cons (rv_cell (ys := _) 0 rfl rfl Try.isAgg74 Try.sizeOf74 rfl) (rv_cons (rv_tmp' rfl (by first | rfl | (refine congrArg AV.bool ?_; simp_all; done))) rv_nil))) | exact retG [5, 2, 2, 2] (v10, v11, [x9]) (rfl) rfl (by rfl) (resN rfl (by decide) (rv_cons (rv_cell (ys := _) 0 rfl rfl Try.isAgg74 Try.sizeOf74 rfl) (rv_cons (rv_tmp' rfl (by first | rfl | (refine congrArg AV.bool ?_; simp_all; done))) rv_nil)))
theorem newAtlasS_spec (p : TPlaces) (hs : p.size ≤ 1048576) : FSpec Try.prog 56 [AV.agg p.cs] (AV.tup [AV.agg (newAtlasS p).1.cs, AV.bool (newAtlasS p).2]) :=
  fspec_of_gspec (newAtlasS_own p hs) fun x h => lt_tup (lc_cons (lt_agg (TAtlas.lcM _ x h fun _ ho => ho)) (lc_cons lt_refl lc_nil))
end Go.Proofs.Ytdbmaekdejhobaa
