/- Walks: the way of a request. -/
import Derived.Test.YtdbmaekdejhobaaRouteM
import Derived.Test.YtdbmaekdejhobaaAtlas2W
set_option linter.unusedVariables false
set_option linter.unusedSimpArgs false
set_option maxRecDepth 100000
namespace Go.Proofs.Ytdbmaekdejhobaa
open Go Go.AV Go.M
attribute [local irreducible] OpW OpA OpS AWP FSpec ESpec GSpec OpE RetOk RetOkG RvDen Le Ev GuardIs SrcIs
theorem wayFor_own (a : TAtlas) (i : Int) (key : Str) (hs : a.size ≤ 1048576) (hk : key.length ≤ 1048576) : GSpec Try.prog 39 [AV.agg a.cs, AV.int i, AV.str key] [] (fun _ : Value => True) (fun v => [.arr v 3 1 ((wayFor a i key).1.map fun x => [AV.int x])]) (fun v => AV.tup [AV.is v, AV.bool (wayFor a i key).2]) := by
  have hml0 : a.Maps.length ≤ 4194304 := Nat.le_trans sizeL_len (show sizeL TPlaces.size a.Maps ≤ 4194304 by unfold TAtlas.size at hs; omega)
  refine gspec_of_awp Try.func39 rfl Try.ntmps39 rfl ?_
  refine awp_seq ?_
  refine awp_region ?_
  refine sq_box rfl rfl rfl rfl (ev_tmp rfl) ?_
  intro b3
  refine sq_plain rfl rfl rfl (w_assign rfl ev_cnils) ?_
  refine sq_plain rfl rfl rfl (w_assign rfl ev_cb) ?_
  refine sq_nil ?_
  refine awp_seq ?_
  refine awp_seq ?_
  refine awp_region ?_
  refine sq_plain rfl rfl rfl (w_loadA 0 rfl (ev_tmp rfl) rfl Try.isAgg74 Try.sizeOf74 rfl) ?_
  refine sq_plain rfl rfl rfl (w_call rfl Try.call44 rfl (goodAtlas_spec _ (by first | assumption | omega)) (evl_cons (ev_tmp rfl) evl_nil)) ?_
  refine sq_plain rfl rfl rfl (w_not rfl (ev_tmp rfl)) ?_
  refine sq_plain rfl rfl rfl (w_move rfl (ev_tmp rfl)) ?_
  refine sq_grd rfl rfl (guard_f rfl rfl rfl) (fun hc => w_move rfl (ev_tmp rfl)) ?_
  refine sq_grd rfl rfl (guard_f rfl rfl rfl) (fun hc => w_call rfl Try.call73 rfl (goodKey_spec _ (by omega)) (evl_cons (ev_whn rfl hc) evl_nil)) ?_
  refine sq_grd rfl rfl (guard_f rfl rfl rfl) (fun hc => w_not rfl (ev_whn rfl hc)) ?_
  refine sq_plain rfl rfl rfl (w_or rfl (ev_tmp rfl) (evif_w rfl)) ?_
  refine sq_plain rfl rfl rfl (w_move rfl (ev_tmp rfl)) ?_
  refine sq_grd rfl rfl (guard_f rfl rfl rfl) (fun hc => w_move rfl (ev_tmp rfl)) ?_
  refine sq_grd rfl rfl (guard_f rfl rfl rfl) (fun hc => w_fldBn 0 rfl Try.underlying74 rfl Try.sizeOf72 (ev_tmp rfl) rfl) ?_
  refine sq_grd rfl rfl (guard_f rfl rfl rfl) (fun hc => w_loadB1 0 rfl (ev_whn rfl hc) rfl Try.isAgg72 rfl) ?_
  refine sq_grd rfl rfl (guard_f rfl rfl rfl) (fun hc => w_llen rfl Try.underlying72 (ev_whn rfl hc)) ?_
  refine sq_grd rfl rfl (guard_f rfl rfl rfl) (fun hc => w_subi rfl (ev_whn rfl hc) ev_ci (by first | omega | ((try simp only [List.length_map, List.length_take, List.length_cons, List.length_nil, chunks_len, szR] at *); omega) | (have hc2 := hc; simp only [Bool.and_eq_true, Bool.or_eq_true, Bool.or_eq_false_iff, Bool.and_eq_false_iff, Bool.not_eq_true', Bool.not_eq_false', decide_eq_true_eq, decide_eq_false_iff_not, beq_iff_eq, bne_iff_ne, List.length_map, List.length_take] at hc2; omega))) ?_
  refine sq_grd rfl rfl (guard_f rfl rfl rfl) (fun hc => w_call rfl Try.call113 rfl (within_spec _ _ _) (evl_cons (ev_whn rfl hc) (evl_cons ev_ci (evl_cons (ev_whn rfl hc) evl_nil)))) ?_
  refine sq_grd rfl rfl (guard_f rfl rfl rfl) (fun hc => w_not rfl (ev_whn rfl hc)) ?_
  refine sq_plain rfl rfl rfl (w_or rfl (ev_tmp rfl) (evif_w rfl)) ?_
  refine sq_nil ?_
  refine awp_cond (ev_tmp rfl) ?_ ?_
  · intro h27
    have he : wayFor a i key = ([], false) := by unfold wayFor; rw [if_pos (by simpa only [List.length_map] using h27)]
    rw [he]
    refine awp_seq ?_
    refine awp_region ?_
    refine sq_plain rfl rfl rfl (w_assign rfl ev_cnils) ?_
    refine sq_plain rfl rfl rfl (w_assign rfl ev_cb) ?_
    refine sq_nil ?_
    refine awp_ret ?_
    refine retG_nil 3 1 ?_
    first | exact retG [0] (Value.slice none 0 0) (trivial) rfl (by rfl) (resN rfl (by decide) (rv_cons (rv_tmp' rfl (by rfl)) (rv_cons (rv_tmp' rfl (by rfl)) rv_nil))) | exact retG [0] (v) (trivial) rfl (by rfl) (resN rfl (by decide) (rv_cons (rv_tmp' rfl (by rfl)) (rv_cons (rv_tmp' rfl (by rfl)) rv_nil)))
  · intro h27
    have h27' := h27
    simp only [List.length_map, Bool.or_eq_false_iff, Bool.not_eq_false'] at h27'
    have hg := h27'.1.1
    have hir := h27'.2
    unfold within at hir
    simp only [Bool.and_eq_true, decide_eq_true_eq] at hir
    have hml := (atlas_facts hg).2.1
    have he : wayFor a i key = (way a i.toNat key, true) := by unfold wayFor; rw [if_neg (by simp only [List.length_map] at h27; rw [h27]; decide)]
    rw [he]
    have hm0 : i.toNat < a.Maps.length := by omega
    have hx0 := mapAt_get hm0
    have hgx0 := good_maps hg hx0
    have hsx0 := map_size hs hx0
    refine awp_skip ?_
    refine awp_seq ?_
    refine awp_region ?_
    refine sq_plain rfl rfl rfl (w_fldBn 0 rfl Try.underlying74 rfl Try.sizeOf72 (ev_tmp rfl) rfl) ?_
    refine sq_plain rfl rfl rfl (w_loadB1 0 rfl (ev_tmp rfl) rfl Try.isAgg72 rfl) ?_
    refine sq_plain rfl rfl rfl (w_move rfl (ev_tmp rfl)) ?_
    refine sq_plain rfl rfl rfl (w_idx rfl Try.underlying72 Try.sizeOf57 (ev_tmp rfl) (ev_tmp rfl) (by omega) (by rw [List.getElem?_map, hx0]; rfl)) ?_
    refine sq_plain rfl rfl rfl (w_loadE rfl (ev_tmp rfl) Try.isAgg57 Try.sizeOf57) ?_
    refine sq_plain rfl rfl rfl (w_move rfl (ev_tmp rfl)) ?_
    refine sq_plain rfl rfl rfl (w_call rfl Try.call118 rfl (owner_spec (mapAt a i.toNat) key (by omega) hgx0) (evl_cons (ev_tmp rfl) (evl_cons (ev_tmp rfl) evl_nil))) ?_
    refine sq_plain rfl rfl rfl (w_assign rfl (ev_tmp rfl)) ?_
    refine sq_nil ?_
    refine awp_seq ?_
    refine awp_region ?_
    refine sq_plain rfl rfl rfl (w_move rfl (ev_tmp rfl)) ?_
    refine sq_bsliceO rfl rfl rfl rfl Try.underlying55 Try.sizeOf3 Try.zeroValue3 rfl rfl rfl rfl (bp_cons (ev_tmp rfl) (as_ik _ _) bp_nil) rfl rfl ?_
    intro v36
    refine sq_plain rfl rfl rfl (w_assign rfl (ev_tmp rfl)) ?_
    refine sq_nil ?_
    refine awp_block ?_
    refine awp_loop_i5 [(2, _), (3, _)] _ (fun (g : Int) (m : Nat) (f : Nat) (v : Value) (out : List Int) => ownerOf (mapAt a m) key = g ∧ m < a.Maps.length ∧ ((m : Int) ≤ knowsAt a g ∨ stepW a key g = g) ∧ a.Maps.length ≤ f + m ∧ way a i.toNat key = out ++ extW a key f g ∧ out.length ≤ m + 1) (fun (g : Int) (m : Nat) (f : Nat) (v : Value) (out : List Int) => [.arr v 3 1 (out.map fun x => [AV.int x])]) (fun (g : Int) (m : Nat) (f : Nat) (v : Value) (out : List Int) => [(8, AV.int g), (9, AV.is v)]) (fun (g : Int) (m : Nat) (f : Nat) (v : Value) (out : List Int) => a.Maps.length - m) (ownerOf (mapAt a i.toNat) key) (i.toNat) (a.Maps.length) (v36) ([ownerOf (mapAt a i.toNat) key]) ?_ (le_eq (by rfl) ⟨rfl, rfl, rfl, rfl, trivial⟩) ?_
    · exact ⟨rfl, hm0, way_first hg key hm0, by omega, rfl, by simp⟩
    intro g m f v out hinv
    have hgo := hinv.1
    have hgr := owner_range (good_maps hg (mapAt_get hinv.2.1)) key
    rw [hgo] at hgr
    have hkr := knows_range hg hgr
    have hk4 := (atlas_facts hg).2.2.1
    have hkx : a.Knows[g.toNat]? = some (knowsAt a g) := by unfold knowsAt; rw [List.getD_eq_getElem?_getD, List.getElem?_eq_getElem (by omega)]; rfl
    have hx := mapAt_get (a := a) (i := (knowsAt a g).toNat) (by omega)
    have hgx := good_maps hg hx
    have hsx := map_size hs hx
    have hol := hinv.2.2.2.2.2
    refine awp_block ?_
    refine awp_seq ?_
    refine awp_region_any (by kernel_rfl) (by kernel_rfl) rfl ?_
    refine ch_plain rfl rfl (w_fldBn 0 rfl Try.underlying74 rfl Try.sizeOf72 (ev_tmp rfl) rfl) ?_
    refine ch_plain rfl rfl (w_loadB1 1 rfl (ev_tmp rfl) rfl Try.isAgg72 rfl) ?_
    refine ch_plain rfl rfl (w_fldBn 1 rfl Try.underlying74 rfl Try.sizeOf55 (ev_tmp rfl) rfl) ?_
    refine ch_plain rfl rfl (w_loadB1 1 rfl (ev_tmp rfl) rfl Try.isAgg55 rfl) ?_
    refine ch_plain rfl rfl (w_move rfl (ev_tmp rfl)) ?_
    refine ch_plain rfl rfl (w_idx rfl Try.underlying55 Try.sizeOf3 (ev_tmp rfl) (ev_tmp rfl) (by omega) (by rw [List.getElem?_map, hkx]; rfl)) ?_
    refine ch_plain rfl rfl (w_loadE1 rfl (ev_tmp rfl) Try.isAgg3 rfl) ?_
    refine ch_plain rfl rfl (w_idx rfl Try.underlying72 Try.sizeOf57 (ev_tmp rfl) (ev_tmp rfl) (by omega) (by rw [List.getElem?_map, hx]; rfl)) ?_
    refine ch_plain rfl rfl (w_loadE rfl (ev_tmp rfl) Try.isAgg57 Try.sizeOf57) ?_
    refine ch_plain rfl rfl (w_move rfl (ev_tmp rfl)) ?_
    refine ch_plain rfl rfl (w_call rfl Try.call118 rfl (owner_spec (mapAt a (knowsAt a g).toNat) key (by omega) hgx) (evl_cons (ev_tmp rfl) (evl_cons (ev_tmp rfl) evl_nil))) ?_
    refine ch_plain rfl rfl (w_assign rfl (ev_tmp rfl)) ?_
    refine ch_nil ?_
    refine awp_seq ?_
    refine awp_seq ?_
    refine awp_region ?_
    refine sq_plain rfl rfl rfl (w_move rfl (ev_tmp rfl)) ?_
    refine sq_plain rfl rfl rfl (w_move rfl (ev_tmp rfl)) ?_
    refine sq_plain rfl rfl rfl (w_eql rfl (ev_tmp rfl) (ev_tmp rfl)) ?_
    refine sq_nil ?_
    refine awp_cond (ev_tmp rfl) ?_ ?_
    · intro h50
      have k50 := eq_of_beqt h50; try simp only [List.length_map] at k50
      have hst : stepW a key g = g := k50
      have hw : way a i.toNat key = out := by rw [hinv.2.2.2.2.1, extW_end hst, List.append_nil]
      rw [hw]
      refine awp_seq ?_
      refine awp_region ?_
      refine sq_plain rfl rfl rfl (w_move rfl (ev_tmp rfl)) ?_
      refine sq_plain rfl rfl rfl (w_assign rfl (ev_tmp rfl)) ?_
      refine sq_plain rfl rfl rfl (w_assign rfl ev_cb) ?_
      refine sq_nil ?_
      refine awp_ret ?_
      first | exact retG [0] v36 (trivial) rfl (by rfl) (resN rfl (by decide) (rv_cons (rv_tmp' rfl (by rfl)) (rv_cons (rv_tmp' rfl (by rfl)) rv_nil))) | exact retG [0] (v) (trivial) rfl (by rfl) (resN rfl (by decide) (rv_cons (rv_tmp' rfl (by rfl)) (rv_cons (rv_tmp' rfl (by rfl)) rv_nil)))
    · intro h50
      have k50 := ne_of_beqf h50; try simp only [List.length_map] at k50
      have hne : stepW a key g ≠ g := k50
      have hkm : (m : Int) ≤ knowsAt a g := by rcases hinv.2.2.1 with h9 | h9; (exact h9); (exact absurd h9 hne)
      obtain ⟨j, hj1, hj2, hj3, hj4⟩ := way_next hg key hinv.2.1 hgo hkm hne
      have hf0 : 0 < f := by have := hinv.2.2.2.1; have := hinv.2.1; omega
      refine awp_skip ?_
      refine awp_seq ?_
      refine awp_region ?_
      refine sq_plain rfl rfl rfl (w_move rfl (ev_tmp rfl)) ?_
      refine sq_plain rfl rfl rfl (w_assign rfl (ev_tmp rfl)) ?_
      refine sq_nil ?_
      refine awp_region ?_
      refine sq_plain rfl rfl rfl (w_move rfl (ev_tmp rfl)) ?_
      refine sq_plain rfl rfl rfl (w_move rfl (ev_tmp rfl)) ?_
      refine sq_plain rfl rfl rfl (w_bslice rfl Try.underlying55 Try.sizeOf3 Try.zeroValue3 rfl rfl rfl rfl (bp_cons (ev_tmp rfl) (as_ik _ _) bp_nil) rfl rfl) ?_
      refine sq_append (by' := 8) 0 rfl rfl rfl rfl Try.underlying55 Try.type3 rfl rfl rfl rfl rfl rfl (ev_tmp rfl) (ev_tmp rfl) rfl (by simp only [List.length_map, chunks_len]; omega) ?_
      intro v56_2
      refine sq_plain rfl rfl rfl (w_assign rfl (ev_tmp rfl)) ?_
      refine sq_nil ?_
      refine blockN ?_
      refine round_end5 g m f v out (stepW a key g) (j) (f - 1) (v56_2) (out ++ [stepW a key g]) ?_ ?_ (le_eq (by exact congrArg (fun z => Own.arr _ _ _ z :: _) (by rw [List.map_append]; rfl)) ⟨rfl, rfl, rfl, rfl, trivial⟩)
      · exact ⟨hj3, hj2, .inl hj4, by omega, by rw [hinv.2.2.2.2.1, extW_step hne (by omega)]; simp, by rw [List.length_append]; have := hinv.2.2.2.2.2; simp only [List.length_cons, List.length_nil]; omega⟩
      · omega
theorem l21Way_own (a : TAtlas) (i : Int) (key : Str) (hs : a.size ≤ 1048576) (hg : goodAtlas a = true) (hir : 0 ≤ i ∧ i < a.Maps.length) : GSpec Try.prog 120 [AV.agg a.cs, AV.int i, AV.str key] [] (fun _ : Value => True) (fun v => [.arr v 3 1 ((way a i.toNat key).map fun x => [AV.int x])]) (fun v => AV.is v) := by
  have hml := (atlas_facts hg).2.1
  have hm0 : i.toNat < a.Maps.length := by omega
  have hx0 := mapAt_get hm0
  have hgx0 := good_maps hg hx0
  have hsx0 := map_size hs hx0
  have hop0 := owner_part hgx0 key
  refine gspec_of_awp Try.func120 rfl Try.ntmps120 rfl ?_
  refine awp_seq ?_
  refine awp_region ?_
  refine sq_box rfl rfl rfl rfl (ev_tmp rfl) ?_
  intro b3
  refine sq_plain rfl rfl rfl (w_assign rfl ev_cnils) ?_
  refine sq_nil ?_
  refine awp_seq ?_
  refine awp_region ?_
  refine sq_plain rfl rfl rfl (w_fldBn 0 rfl Try.underlying74 rfl Try.sizeOf72 (ev_tmp rfl) rfl) ?_
  refine sq_plain rfl rfl rfl (w_loadB1 0 rfl (ev_tmp rfl) rfl Try.isAgg72 rfl) ?_
  refine sq_plain rfl rfl rfl (w_move rfl (ev_tmp rfl)) ?_
  refine sq_plain rfl rfl rfl (w_idx rfl Try.underlying72 Try.sizeOf57 (ev_tmp rfl) (ev_tmp rfl) (by omega) (by rw [List.getElem?_map, hx0]; rfl)) ?_
  refine sq_plain rfl rfl rfl (w_loadE rfl (ev_tmp rfl) Try.isAgg57 Try.sizeOf57) ?_
  refine sq_plain rfl rfl rfl (w_move rfl (ev_tmp rfl)) ?_
  refine sq_plain rfl rfl rfl (w_call rfl Try.call121 rfl (hop0 ▸ l20Group_spec (mapAt a i.toNat) key (by omega) hgx0) (evl_cons (ev_tmp rfl) (evl_cons (ev_tmp rfl) evl_nil))) ?_
  refine sq_plain rfl rfl rfl (w_assign rfl (ev_tmp rfl)) ?_
  refine sq_nil ?_
  refine awp_seq ?_
  refine awp_region ?_
  refine sq_plain rfl rfl rfl (w_move rfl (ev_tmp rfl)) ?_
  refine sq_bsliceO rfl rfl rfl rfl Try.underlying55 Try.sizeOf3 Try.zeroValue3 rfl rfl rfl rfl (bp_cons (ev_tmp rfl) (as_ik _ _) bp_nil) rfl rfl ?_
  intro v18
  refine sq_plain rfl rfl rfl (w_assign rfl (ev_tmp rfl)) ?_
  refine sq_nil ?_
  refine awp_seq ?_
  refine awp_block ?_
  refine awp_loop_i5 [(2, _), (3, _), (6, _)] _ (fun (g : Int) (m : Nat) (f : Nat) (v : Value) (out : List Int) => ownerOf (mapAt a m) key = g ∧ m < a.Maps.length ∧ ((m : Int) ≤ knowsAt a g ∨ stepW a key g = g) ∧ a.Maps.length ≤ f + m ∧ way a i.toNat key = out ++ extW a key f g ∧ out.length ≤ m + 1) (fun (g : Int) (m : Nat) (f : Nat) (v : Value) (out : List Int) => [.arr v 3 1 (out.map fun x => [AV.int x])]) (fun (g : Int) (m : Nat) (f : Nat) (v : Value) (out : List Int) => [(7, AV.int g), (8, AV.is v)]) (fun (g : Int) (m : Nat) (f : Nat) (v : Value) (out : List Int) => a.Maps.length - m) (ownerOf (mapAt a i.toNat) key) (i.toNat) (a.Maps.length) (v18) ([ownerOf (mapAt a i.toNat) key]) ?_ (le_eq (by rfl) ⟨rfl, rfl, rfl, rfl, rfl, trivial⟩) ?_
  · exact ⟨rfl, hm0, way_first hg key hm0, by omega, rfl, by simp⟩
  intro g m f v out hinv
  have hgo := hinv.1
  have hgr := owner_range (good_maps hg (mapAt_get hinv.2.1)) key
  rw [hgo] at hgr
  have hkr := knows_range hg hgr
  have hk4 := (atlas_facts hg).2.2.1
  have hkx : a.Knows[g.toNat]? = some (knowsAt a g) := by unfold knowsAt; rw [List.getD_eq_getElem?_getD, List.getElem?_eq_getElem (by omega)]; rfl
  have hx := mapAt_get (a := a) (i := (knowsAt a g).toNat) (by omega)
  have hgx := good_maps hg hx
  have hsx := map_size hs hx
  have hol := hinv.2.2.2.2.2
  have hop := owner_part hgx key
  refine awp_seq ?_
  refine awp_seq ?_
  refine awp_region ?_
  refine sq_plain rfl rfl rfl (w_move rfl (ev_tmp rfl)) ?_
  refine sq_plain rfl rfl rfl (w_alen 0 rfl Try.underlying55 (ev_tmp rfl) rfl) ?_
  refine sq_plain rfl rfl rfl (w_fldBn 0 rfl Try.underlying74 rfl Try.sizeOf72 (ev_tmp rfl) rfl) ?_
  refine sq_plain rfl rfl rfl (w_loadB1 1 rfl (ev_tmp rfl) rfl Try.isAgg72 rfl) ?_
  refine sq_plain rfl rfl rfl (w_llen rfl Try.underlying72 (ev_tmp rfl)) ?_
  refine sq_plain rfl rfl rfl (w_leq rfl (ev_tmp rfl) (ev_tmp rfl)) ?_
  refine sq_nil ?_
  refine awp_cond (ev_tmp rfl) ?_ ?_
  · intro h24
    have k24 := of_decide_eq_true h24; try simp only [List.length_map] at k24
    refine awp_skip ?_
    refine awp_block ?_
    refine awp_seq ?_
    refine awp_region_any (by kernel_rfl) (by kernel_rfl) rfl ?_
    refine ch_plain rfl rfl (w_fldBn 0 rfl Try.underlying74 rfl Try.sizeOf72 (ev_tmp rfl) rfl) ?_
    refine ch_plain rfl rfl (w_loadB1 1 rfl (ev_tmp rfl) rfl Try.isAgg72 rfl) ?_
    refine ch_plain rfl rfl (w_fldBn 1 rfl Try.underlying74 rfl Try.sizeOf55 (ev_tmp rfl) rfl) ?_
    refine ch_plain rfl rfl (w_loadB1 1 rfl (ev_tmp rfl) rfl Try.isAgg55 rfl) ?_
    refine ch_plain rfl rfl (w_move rfl (ev_tmp rfl)) ?_
    refine ch_plain rfl rfl (w_idx rfl Try.underlying55 Try.sizeOf3 (ev_tmp rfl) (ev_tmp rfl) (by omega) (by rw [List.getElem?_map, hkx]; rfl)) ?_
    refine ch_plain rfl rfl (w_loadE1 rfl (ev_tmp rfl) Try.isAgg3 rfl) ?_
    refine ch_plain rfl rfl (w_idx rfl Try.underlying72 Try.sizeOf57 (ev_tmp rfl) (ev_tmp rfl) (by omega) (by rw [List.getElem?_map, hx]; rfl)) ?_
    refine ch_plain rfl rfl (w_loadE rfl (ev_tmp rfl) Try.isAgg57 Try.sizeOf57) ?_
    refine ch_plain rfl rfl (w_move rfl (ev_tmp rfl)) ?_
    refine ch_plain rfl rfl (w_call rfl Try.call121 rfl (hop ▸ l20Group_spec (mapAt a (knowsAt a g).toNat) key (by omega) hgx) (evl_cons (ev_tmp rfl) (evl_cons (ev_tmp rfl) evl_nil))) ?_
    refine ch_plain rfl rfl (w_assign rfl (ev_tmp rfl)) ?_
    refine ch_nil ?_
    refine awp_seq ?_
    refine awp_seq ?_
    refine awp_region ?_
    refine sq_plain rfl rfl rfl (w_move rfl (ev_tmp rfl)) ?_
    refine sq_plain rfl rfl rfl (w_move rfl (ev_tmp rfl)) ?_
    refine sq_plain rfl rfl rfl (w_eql rfl (ev_tmp rfl) (ev_tmp rfl)) ?_
    refine sq_nil ?_
    refine awp_cond (ev_tmp rfl) ?_ ?_
    · intro h38
      have k38 := eq_of_beqt h38; try simp only [List.length_map] at k38
      have hst : stepW a key g = g := k38
      have hw : way a i.toNat key = out := by rw [hinv.2.2.2.2.1, extW_end hst, List.append_nil]
      rw [hw]
      refine awp_exit ?_
      refine awp_seq ?_
      refine awp_region ?_
      refine sq_plain rfl rfl rfl (w_move rfl (ev_tmp rfl)) ?_
      refine sq_plain rfl rfl rfl (w_assign rfl (ev_tmp rfl)) ?_
      refine sq_nil ?_
      refine awp_ret ?_
      first | exact retG [0] v18 (trivial) rfl (by rfl) (resR rfl (rv_tmp' rfl (by rfl))) | exact retG [0] (v) (trivial) rfl (by rfl) (resR rfl (rv_tmp' rfl (by rfl)))
    · intro h38
      have k38 := ne_of_beqf h38; try simp only [List.length_map] at k38
      have hne : stepW a key g ≠ g := k38
      have hkm : (m : Int) ≤ knowsAt a g := by rcases hinv.2.2.1 with h9 | h9; (exact h9); (exact absurd h9 hne)
      obtain ⟨j, hj1, hj2, hj3, hj4⟩ := way_next hg key hinv.2.1 hgo hkm hne
      have hf0 : 0 < f := by have := hinv.2.2.2.1; have := hinv.2.1; omega
      refine awp_skip ?_
      refine awp_seq ?_
      refine awp_region ?_
      refine sq_plain rfl rfl rfl (w_move rfl (ev_tmp rfl)) ?_
      refine sq_plain rfl rfl rfl (w_assign rfl (ev_tmp rfl)) ?_
      refine sq_nil ?_
      refine awp_region ?_
      refine sq_plain rfl rfl rfl (w_move rfl (ev_tmp rfl)) ?_
      refine sq_plain rfl rfl rfl (w_move rfl (ev_tmp rfl)) ?_
      refine sq_plain rfl rfl rfl (w_bslice rfl Try.underlying55 Try.sizeOf3 Try.zeroValue3 rfl rfl rfl rfl (bp_cons (ev_tmp rfl) (as_ik _ _) bp_nil) rfl rfl) ?_
      refine sq_append (by' := 8) 0 rfl rfl rfl rfl Try.underlying55 Try.type3 rfl rfl rfl rfl rfl rfl (ev_tmp rfl) (ev_tmp rfl) rfl (by simp only [List.length_map, chunks_len]; omega) ?_
      intro v43_1
      refine sq_plain rfl rfl rfl (w_assign rfl (ev_tmp rfl)) ?_
      refine sq_nil ?_
      refine blockN ?_
      refine round_end5 g m f v out (stepW a key g) (j) (f - 1) (v43_1) (out ++ [stepW a key g]) ?_ ?_ (le_eq (by exact congrArg (fun z => Own.arr _ _ _ z :: _) (by rw [List.map_append]; rfl)) ⟨rfl, rfl, rfl, rfl, rfl, trivial⟩)
      · exact ⟨hj3, hj2, .inl hj4, by omega, by rw [hinv.2.2.2.2.1, extW_step hne (by omega)]; simp, by rw [List.length_append]; have := hinv.2.2.2.2.2; simp only [List.length_cons, List.length_nil]; omega⟩
      · omega
  · intro h24
    have k24 := of_decide_eq_false h24; try simp only [List.length_map] at k24
    exfalso; have h9 := of_decide_eq_false h24; simp only [List.length_map] at h9; have := hinv.2.1; omega
theorem wayForS_own (a : TAtlas) (i : Int) (key : Str) (hs : a.size ≤ 1048576) (hk : key.length ≤ 1048576) : GSpec Try.prog 40 [AV.agg a.cs, AV.int i, AV.str key] [] (fun _ : Value => True) (fun v => [.arr v 3 1 ((wayForS a i key).1.map fun x => [AV.int x])]) (fun v => AV.tup [AV.is v, AV.bool (wayForS a i key).2]) := by
  have hml0 : a.Maps.length ≤ 4194304 := Nat.le_trans sizeL_len (show sizeL TPlaces.size a.Maps ≤ 4194304 by unfold TAtlas.size at hs; omega)
  refine gspec_of_awp Try.func40 rfl Try.ntmps40 rfl ?_
  refine awp_seq ?_
  refine awp_region ?_
  refine sq_box rfl rfl rfl rfl (ev_tmp rfl) ?_
  intro b3
  refine sq_plain rfl rfl rfl (w_assign rfl ev_cnils) ?_
  refine sq_plain rfl rfl rfl (w_assign rfl ev_cb) ?_
  refine sq_nil ?_
  refine awp_seq ?_
  refine awp_seq ?_
  refine awp_region ?_
  refine sq_plain rfl rfl rfl (w_loadA 0 rfl (ev_tmp rfl) rfl Try.isAgg74 Try.sizeOf74 rfl) ?_
  refine sq_plain rfl rfl rfl (w_call rfl Try.call45 rfl (goodAtlasS_spec _ (by first | assumption | omega)) (evl_cons (ev_tmp rfl) evl_nil)) ?_
  refine sq_plain rfl rfl rfl (w_not rfl (ev_tmp rfl)) ?_
  refine sq_plain rfl rfl rfl (w_move rfl (ev_tmp rfl)) ?_
  refine sq_grd rfl rfl (guard_f rfl rfl rfl) (fun hc => w_move rfl (ev_tmp rfl)) ?_
  refine sq_grd rfl rfl (guard_f rfl rfl rfl) (fun hc => w_fldBn 0 rfl Try.underlying74 rfl Try.sizeOf72 (ev_tmp rfl) rfl) ?_
  refine sq_grd rfl rfl (guard_f rfl rfl rfl) (fun hc => w_loadB1 0 rfl (ev_whn rfl hc) rfl Try.isAgg72 rfl) ?_
  refine sq_grd rfl rfl (guard_f rfl rfl rfl) (fun hc => w_llen rfl Try.underlying72 (ev_whn rfl hc)) ?_
  refine sq_grd rfl rfl (guard_f rfl rfl rfl) (fun hc => w_subi rfl (ev_whn rfl hc) ev_ci (by first | omega | ((try simp only [List.length_map, List.length_take, List.length_cons, List.length_nil, chunks_len, szR] at *); omega) | (have hc2 := hc; simp only [Bool.and_eq_true, Bool.or_eq_true, Bool.or_eq_false_iff, Bool.and_eq_false_iff, Bool.not_eq_true', Bool.not_eq_false', decide_eq_true_eq, decide_eq_false_iff_not, beq_iff_eq, bne_iff_ne, List.length_map, List.length_take] at hc2; omega))) ?_
  refine sq_grd rfl rfl (guard_f rfl rfl rfl) (fun hc => w_call rfl Try.call107 rfl (l1In_spec _ _ _) (evl_cons (ev_whn rfl hc) (evl_cons ev_ci (evl_cons (ev_whn rfl hc) evl_nil)))) ?_
  refine sq_grd rfl rfl (guard_f rfl rfl rfl) (fun hc => w_not rfl (ev_whn rfl hc)) ?_
  refine sq_plain rfl rfl rfl (w_or rfl (ev_tmp rfl) (evif_w rfl)) ?_
  refine sq_plain rfl rfl rfl (w_move rfl (ev_tmp rfl)) ?_
  refine sq_grd rfl rfl (guard_f rfl rfl rfl) (fun hc => w_move rfl (ev_tmp rfl)) ?_
  refine sq_grd rfl rfl (guard_f rfl rfl rfl) (fun hc => w_call rfl Try.call77 rfl (l3Key_spec _ (by omega)) (evl_cons (ev_whn rfl hc) evl_nil)) ?_
  refine sq_grd rfl rfl (guard_f rfl rfl rfl) (fun hc => w_not rfl (ev_whn rfl hc)) ?_
  refine sq_plain rfl rfl rfl (w_or rfl (ev_tmp rfl) (evif_w rfl)) ?_
  refine sq_nil ?_
  refine awp_cond (ev_tmp rfl) ?_ ?_
  · intro h24
    have he : wayForS a i key = ([], false) := by unfold wayForS; rw [if_pos (by simpa only [List.length_map] using h24)]
    rw [he]
    refine awp_seq ?_
    refine awp_region ?_
    refine sq_plain rfl rfl rfl (w_assign rfl ev_cnils) ?_
    refine sq_plain rfl rfl rfl (w_assign rfl ev_cb) ?_
    refine sq_nil ?_
    refine awp_ret ?_
    refine retG_nil 3 1 ?_
    exact retG [0] (Value.slice none 0 0) (trivial) rfl (by rfl) (resN rfl (by decide) (rv_cons (rv_tmp' rfl (by rfl)) (rv_cons (rv_tmp' rfl (by rfl)) rv_nil)))
  · intro h24
    have h24' := h24
    simp only [List.length_map, Bool.or_eq_false_iff, Bool.not_eq_false'] at h24'
    have hg : goodAtlas a = true := by rw [goodAtlas_eq]; exact h24'.1.1
    have hir := h24'.1.2
    unfold within at hir
    simp only [Bool.and_eq_true, decide_eq_true_eq] at hir
    have he : wayForS a i key = (way a i.toNat key, true) := by unfold wayForS; rw [if_neg (by simp only [List.length_map] at h24; rw [h24]; decide)]
    rw [he]
    refine awp_skip ?_
    refine awp_seq ?_
    refine awp_region ?_
    refine sq_plain rfl rfl rfl (w_loadA 0 rfl (ev_tmp rfl) rfl Try.isAgg74 Try.sizeOf74 rfl) ?_
    refine sq_plain rfl rfl rfl (w_move rfl (ev_tmp rfl)) ?_
    refine sq_plain rfl rfl rfl (w_move rfl (ev_tmp rfl)) ?_
    refine sq_callG [] rfl rfl rfl rfl Try.call120 rfl (l21Way_own a i key hs hg ⟨hir.1, by omega⟩) (evl_cons (ev_tmp rfl) (evl_cons (ev_tmp rfl) (evl_cons (ev_tmp rfl) evl_nil))) rfl ?_
    intro x28 ok28
    refine sq_plain rfl rfl rfl (w_assign rfl (ev_tmp rfl)) ?_
    refine sq_plain rfl rfl rfl (w_assign rfl ev_cb) ?_
    refine sq_nil ?_
    refine awp_ret ?_
    exact retG [0] x28 (trivial) rfl (by rfl) (resN rfl (by decide) (rv_cons (rv_tmp' rfl (by rfl)) (rv_cons (rv_tmp' rfl (by rfl)) rv_nil)))
theorem wayForS_spec (a : TAtlas) (i : Int) (key : Str) (hs : a.size ≤ 1048576) (hk : key.length ≤ 1048576) : FSpec Try.prog 40 [AV.agg a.cs, AV.int i, AV.str key] (AV.tup [ints (wayForS a i key).1, AV.bool (wayForS a i key).2]) :=
  fspec_of_gspec (wayForS_own a i key hs hk) fun x _ => lt_tup (lc_cons (lt_arr (List.mem_singleton.2 rfl) le_refl_e) (lc_cons lt_refl lc_nil))
end Go.Proofs.Ytdbmaekdejhobaa
