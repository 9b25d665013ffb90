/- Walks: a run of a migration. -/
import Derived.Test.YtdbmaekdejhobaaMove8M
import Derived.Test.YtdbmaekdejhobaaMove7W
set_option linter.unusedVariables false
set_option linter.unusedSimpArgs false
set_option maxRecDepth 100000
namespace Go.Proofs.Ytdbmaekdejhobaa
open Go Go.AV Go.M
attribute [local irreducible] OpW OpA OpS AWP FSpec ESpec GSpec OpE RetOk RetOkG RvDen Le Ev GuardIs SrcIs
def boolO (v : Value) (l : List Bool) : Own := .arr v 4 1 (l.map fun b => [AV.bool b])
theorem playMove_own (m : TMove) (l : List TMoveAct) (hs : m.size ≤ 1048576) (hl : sizeL TMoveAct.size l ≤ 1048576) : GSpec Try.prog 19 [AV.agg m.cs, AV.list 5 (l.map TMoveAct.cs)] [] (fun _ : (Value × Value) × Value => True) (fun x => TMove.ow (playMove m l).1 x.1 ++ [boolO x.2 (playMove m l).2.1]) (fun x => AV.tup [AV.agg (TMove.ocs (playMove m l).1 x.1), AV.is x.2, AV.bool (playMove m l).2.2]) := by
  have hll : l.length ≤ 1048576 := Nat.le_trans sizeL_len hl
  refine gspec_of_awp Try.func19 rfl Try.ntmps19 rfl ?_
  refine awp_seq ?_
  refine awp_region ?_
  refine sq_box rfl rfl rfl rfl (ev_tmp rfl) ?_
  intro b2
  refine sq_alloc rfl rfl rfl rfl Try.zeroValue27 rfl ?_
  intro b4
  refine sq_plain rfl rfl rfl (w_assign rfl ev_cnils) ?_
  refine sq_plain rfl rfl rfl (w_assign rfl ev_cb) ?_
  refine sq_nil ?_
  refine awp_seq ?_
  refine awp_seq ?_
  refine awp_region ?_
  refine sq_plain rfl rfl rfl (w_loadA 1 rfl (ev_tmp rfl) rfl Try.isAgg27 Try.sizeOf27 rfl) ?_
  refine sq_plain rfl rfl rfl (w_call rfl Try.call71 rfl (goodMove_spec _ (by first | assumption | omega)) (evl_cons (ev_tmp rfl) evl_nil)) ?_
  refine sq_plain rfl rfl rfl (w_not rfl (ev_tmp rfl)) ?_
  refine sq_plain rfl rfl rfl (w_move rfl (ev_tmp rfl)) ?_
  refine sq_grd rfl rfl (guard_f rfl rfl rfl) (fun hc => w_move rfl (ev_tmp rfl)) ?_
  refine sq_grd rfl rfl (guard_f rfl rfl rfl) (fun hc => w_llen rfl Try.underlying42 (ev_whn rfl hc)) ?_
  refine sq_grd rfl rfl (guard_f rfl rfl rfl) (fun hc => w_gtr rfl (ev_whn rfl hc) ev_ci) ?_
  refine sq_plain rfl rfl rfl (w_or rfl (ev_tmp rfl) (evif_w rfl)) ?_
  refine sq_nil ?_
  refine awp_cond (ev_tmp rfl) ?_ ?_
  · intro h18
    have he : playMove m l = (noMove, [], false) := by unfold playMove; rw [if_pos (by simpa only [List.length_map] using h18)]
    rw [he]
    refine awp_seq ?_
    refine awp_region ?_
    refine sq_plain rfl rfl rfl (w_build (places := #[(0, 1), (1, 1), (2, 1), (3, 1), (4, 1), (5, 1), (6, 1)]) rfl Try.underlying27 Try.zeroValue27 (fun w => by kernel_rfl) rfl bp_nil rfl) ?_
    refine sq_storeB0 0 rfl rfl rfl (ev_tmp rfl) (ev_tmp rfl) (as_agg _) rfl Try.sizeOf27 rfl ?_
    refine sq_plain rfl rfl rfl (w_assign rfl ev_cnils) ?_
    refine sq_plain rfl rfl rfl (w_assign rfl ev_cb) ?_
    refine sq_nil ?_
    refine awp_ret ?_
    refine retG_nil 37 3 ?_
    refine retG_nil 37 3 ?_
    refine retG_nil 4 1 ?_
    first | exact retG [2, 1, 0] (y, v) (trivial) rfl (by rfl) (resN rfl (by decide) (rv_cons (rv_cell (ys := _) 3 rfl rfl Try.isAgg27 Try.sizeOf27 rfl) (rv_cons (rv_tmp' rfl (by rfl)) (rv_cons (rv_tmp' rfl (by rfl)) rv_nil)))) | exact retG [2, 1, 0] (((Value.slice none 0 0), (Value.slice none 0 0)), (Value.slice none 0 0)) (trivial) rfl (by rfl) (resN rfl (by decide) (rv_cons (rv_cell (ys := _) 3 rfl rfl Try.isAgg27 Try.sizeOf27 rfl) (rv_cons (rv_tmp' rfl (by rfl)) (rv_cons (rv_tmp' rfl (by rfl)) rv_nil))))
  · intro h18
    have hb : (!goodMove m || decide ((30 : Int) < (l.length : Int))) = false := by simpa only [List.length_map] using h18
    have hgm : goodMove m = true := by cases hg : goodMove m with | true => rfl | false => (rw [hg] at hb; simp at hb)
    have he : playMove m l = ((runI m l).1, (runI m l).2, true) := by unfold playMove; rw [if_neg (by rw [hb]; decide)]
    rw [he]
    refine awp_skip ?_
    refine awp_seq ?_
    refine awp_region ?_
    refine sq_plain rfl rfl rfl (w_loadA 1 rfl (ev_tmp rfl) rfl Try.isAgg27 Try.sizeOf27 rfl) ?_
    refine sq_callG [] rfl rfl rfl rfl Try.call70 rfl (copyMove_own m (by omega)) (evl_cons (ev_tmp rfl) evl_nil) rfl ?_
    intro x21 ok21
    refine sq_alloc rfl rfl rfl rfl Try.zeroValue27 rfl ?_
    intro b7
    refine sq_storeB0 0 rfl rfl rfl (ev_tmp rfl) (ev_tmp rfl) (as_agg _) rfl Try.sizeOf27 rfl ?_
    refine sq_nil ?_
    refine awp_seq ?_
    refine awp_region ?_
    refine sq_emptyarr rfl rfl rfl rfl Try.underlying46 Try.sizeOf4 ?_
    intro v22
    refine sq_plain rfl rfl rfl (w_assign rfl (ev_tmp rfl)) ?_
    refine sq_nil ?_
    refine awp_seq ?_
    refine awp_seq ?_
    refine awp_region ?_
    refine sq_plain rfl rfl rfl (w_move rfl (ev_tmp rfl)) ?_
    refine sq_plain rfl rfl rfl (w_llen rfl Try.underlying42 (ev_tmp rfl)) ?_
    refine sq_plain rfl rfl rfl (w_move rfl ev_ci) ?_
    refine sq_nil ?_
    refine awp_block ?_
    refine AWP.le (le_pick [1, 1, 1, 0] rfl) ?_
    refine awp_loop_i3 [(4, _), (5, _), (6, _), (7, _), (23, _), (24, _)] _ (fun (i : Nat) (y : Value × Value) (v : Value) => i ≤ l.length ∧ goodMove (runI m (l.take i)).1 = true) (fun (i : Nat) (y : Value × Value) (v : Value) => [.box b7 27 (TMove.ocs (runI m (l.take i)).1 y), .arr y.1 37 3 ((runI m (l.take i)).1.From.map TWrite.cs), .arr y.2 37 3 ((runI m (l.take i)).1.To.map TWrite.cs), .arr v 4 1 ((runI m (l.take i)).2.map fun b => [AV.bool b])]) (fun (i : Nat) (y : Value × Value) (v : Value) => [(8, AV.is v), (25, AV.int i)]) (fun (i : Nat) (y : Value × Value) (v : Value) => l.length - i) (0) (x21) (v22) ?_ (le_eq (by rfl) ⟨rfl, rfl, rfl, rfl, rfl, rfl, rfl, rfl, trivial⟩) ?_
    · exact ⟨Nat.zero_le _, hgm⟩
    intro i y v hinv
    refine awp_seq ?_
    refine awp_region ?_
    refine sq_plain rfl rfl rfl (w_lss rfl (ev_tmp rfl) (ev_tmp rfl)) ?_
    refine sq_nil ?_
    refine awp_seq ?_
    refine awp_cond (ev_tmp rfl) ?_ ?_
    · intro h26
      have k26 := of_decide_eq_true h26; try simp only [List.length_map] at k26
      have hlt : i < l.length := by omega
      obtain ⟨x, hx⟩ := get_some hlt
      have hsz := goodMove_size hinv.2
      have hrl := runI_len m (l.take i)
      rw [List.length_take] at hrl
      have hxs := Nat.le_trans (sizeL_get (f := TMoveAct.size) hx) hl
      refine awp_skip ?_
      refine awp_seq ?_
      refine awp_block ?_
      refine awp_seq ?_
      refine awp_region ?_
      refine sq_plain rfl rfl rfl (w_idxm rfl Try.underlying42 Try.sizeOf39 (ev_tmp rfl) (ev_tmp rfl) hx (by first | omega | ((try simp only [List.length_map, List.length_take, List.length_cons, List.length_nil, chunks_len, szR] at *); omega) | (have hc2 := hc; simp only [Bool.and_eq_true, Bool.or_eq_true, Bool.or_eq_false_iff, Bool.and_eq_false_iff, Bool.not_eq_true', Bool.not_eq_false', decide_eq_true_eq, decide_eq_false_iff_not, beq_iff_eq, bne_iff_ne, List.length_map, List.length_take] at hc2; omega))) ?_
      refine sq_plain rfl rfl rfl (w_loadE rfl (ev_tmp rfl) Try.isAgg39 Try.sizeOf39) ?_
      refine sq_alloc rfl rfl rfl rfl Try.zeroValue39 rfl ?_
      intro b10
      refine sq_storeB0 0 rfl rfl rfl (ev_tmp rfl) (ev_tmp rfl) (as_agg _) rfl Try.sizeOf39 rfl ?_
      refine sq_nil ?_
      refine awp_region ?_
      refine sq_plain rfl rfl rfl (w_move rfl (ev_tmp rfl)) ?_
      refine sq_plain rfl rfl rfl (w_loadA 1 rfl (ev_tmp rfl) rfl Try.isAgg27 Try.sizeOf27 rfl) ?_
      refine sq_plain rfl rfl rfl (w_loadA 0 rfl (ev_tmp rfl) rfl Try.isAgg39 Try.sizeOf39 rfl) ?_
      refine sq_plain rfl rfl rfl (w_callB rfl Try.call87 rfl (isMoveAct_spec _ _ (by assumption)) (flat_bool _) (evlb_cons (evb_lt (ev_tmp rfl) (lt_agg (lc_cons lt_refl (lc_cons lt_refl (lc_cons lt_refl (lc_cons (lt_arr (List.mem_of_getElem? (i := 2) rfl) le_refl_e) (lc_cons (lt_arr (List.mem_of_getElem? (i := 3) rfl) le_refl_e) (lc_cons lt_refl (lc_cons lt_refl lc_nil))))))))) (evlb_cons (evb (ev_tmp rfl)) evlb_nil))) ?_
      refine sq_plain rfl rfl rfl (w_move rfl (ev_tmp rfl)) ?_
      refine sq_grd rfl rfl (guard_t rfl rfl rfl) (fun hc => w_loadA 0 rfl (ev_tmp rfl) rfl Try.isAgg39 Try.sizeOf39 rfl) ?_
      refine sq_gcase rfl rfl (guard_t rfl rfl rfl) ?_ ?_
      · intro gh35
        refine sq_callG [1, 1, 1] rfl rfl rfl rfl Try.call83 rfl (stepMove_own b7 _ y x (by omega) gh35) (evl_cons (ev_tmp rfl) (evl_cons (ev_whn rfl gh35) evl_nil)) rfl ?_
        intro x35 ok35
        refine sq_plain rfl rfl rfl (w_and rfl (ev_tmp rfl) (evif (ev_tmp rfl))) ?_
        refine sq_plain rfl rfl rfl (w_bslice rfl Try.underlying46 Try.sizeOf4 Try.zeroValue4 rfl rfl rfl rfl (bp_cons (ev_tmp rfl) (as_bool _) bp_nil) rfl rfl) ?_
        refine sq_append (by' := 1) 4 rfl rfl rfl rfl Try.underlying46 Try.type4 rfl rfl rfl rfl rfl rfl (ev_tmp rfl) (ev_tmp rfl) rfl (by simp only [chunks_len, List.length_append, List.length_nil, List.length_map, List.length_take, List.length_cons, List.length_drop]; omega) ?_
        intro v38_4
        refine sq_plain rfl rfl rfl (w_assign rfl (ev_tmp rfl)) ?_
        refine sq_nil ?_
        refine awp_region ?_
        refine sq_plain rfl rfl rfl (w_addi rfl (ev_tmp rfl) ev_ci (by first | omega | ((try simp only [List.length_map, List.length_take, List.length_cons, List.length_nil, chunks_len, szR] at *); omega) | (have hc2 := hc; simp only [Bool.and_eq_true, Bool.or_eq_true, Bool.or_eq_false_iff, Bool.and_eq_false_iff, Bool.not_eq_true', Bool.not_eq_false', decide_eq_true_eq, decide_eq_false_iff_not, beq_iff_eq, bne_iff_ne, List.length_map, List.length_take] at hc2; omega))) ?_
        refine sq_plain rfl rfl rfl (w_move rfl (ev_tmp rfl)) ?_
        refine sq_nil ?_
        refine round_end3 i y v (i + 1) (x35) (v38_4) ?_ ?_ (Le.trans (le_pick [3, 0, 0, 0] rfl) (le_dropeq 1 (by rw [runI_next hx, oneI, gh35]; first | (simp only [if_true, Bool.true_and, List.map_append, List.map_cons, List.map_nil]; rfl) | (simp only [Bool.false_eq_true, if_false, Bool.false_and, List.map_append, List.map_cons, List.map_nil]; rfl)) ⟨rfl, rfl, rfl, rfl, rfl, rfl, rfl, rfl, trivial⟩))
        · exact ⟨by omega, runI_good hgm _⟩
        · omega
      · intro gh35
        refine sq_plain rfl rfl rfl (w_and rfl (ev_tmp rfl) (evif_no (x := AV.bool false) gh35)) ?_
        refine sq_plain rfl rfl rfl (w_bslice rfl Try.underlying46 Try.sizeOf4 Try.zeroValue4 rfl rfl rfl rfl (bp_cons (ev_tmp rfl) (as_bool _) bp_nil) rfl rfl) ?_
        refine sq_append (by' := 1) 4 rfl rfl rfl rfl Try.underlying46 Try.type4 rfl rfl rfl rfl rfl rfl (ev_tmp rfl) (ev_tmp rfl) rfl (by simp only [chunks_len, List.length_append, List.length_nil, List.length_map, List.length_take, List.length_cons, List.length_drop]; omega) ?_
        intro v38_5
        refine sq_plain rfl rfl rfl (w_assign rfl (ev_tmp rfl)) ?_
        refine sq_nil ?_
        refine awp_region ?_
        refine sq_plain rfl rfl rfl (w_addi rfl (ev_tmp rfl) ev_ci (by first | omega | ((try simp only [List.length_map, List.length_take, List.length_cons, List.length_nil, chunks_len, szR] at *); omega) | (have hc2 := hc; simp only [Bool.and_eq_true, Bool.or_eq_true, Bool.or_eq_false_iff, Bool.and_eq_false_iff, Bool.not_eq_true', Bool.not_eq_false', decide_eq_true_eq, decide_eq_false_iff_not, beq_iff_eq, bne_iff_ne, List.length_map, List.length_take] at hc2; omega))) ?_
        refine sq_plain rfl rfl rfl (w_move rfl (ev_tmp rfl)) ?_
        refine sq_nil ?_
        refine round_end3 i y v (i + 1) (y) (v38_5) ?_ ?_ (Le.trans (le_pick [0] rfl) (le_dropeq 1 (by rw [runI_next hx, oneI, gh35]; first | (simp only [if_true, Bool.true_and, List.map_append, List.map_cons, List.map_nil]; rfl) | (simp only [Bool.false_eq_true, if_false, Bool.false_and, List.map_append, List.map_cons, List.map_nil]; rfl)) ⟨rfl, rfl, rfl, rfl, rfl, rfl, rfl, rfl, trivial⟩))
        · exact ⟨by omega, runI_good hgm _⟩
        · omega
    · intro h26
      have k26 := of_decide_eq_false h26; try simp only [List.length_map] at k26
      have hge : l.length ≤ i := by omega
      rw [List.take_of_length_le hge]
      refine awp_exit ?_
      refine awp_seq ?_
      refine awp_region ?_
      refine sq_plain rfl rfl rfl (w_loadA 0 rfl (ev_tmp rfl) rfl Try.isAgg27 Try.sizeOf27 rfl) ?_
      refine sq_plain rfl rfl rfl (w_move rfl (ev_tmp rfl)) ?_
      refine sq_storeB0 4 rfl rfl rfl (ev_tmp rfl) (ev_tmp rfl) (as_agg _) rfl Try.sizeOf27 rfl ?_
      refine sq_plain rfl rfl rfl (w_assign rfl (ev_tmp rfl)) ?_
      refine sq_plain rfl rfl rfl (w_assign rfl ev_cb) ?_
      refine sq_nil ?_
      refine awp_ret ?_
      first | exact retG [1, 1, 1] (y, v) (trivial) rfl (by rfl) (resN rfl (by decide) (rv_cons (rv_cell (ys := _) 4 rfl rfl Try.isAgg27 Try.sizeOf27 rfl) (rv_cons (rv_tmp' rfl (by rfl)) (rv_cons (rv_tmp' rfl (by rfl)) rv_nil)))) | exact retG [1, 1, 1] (((Value.slice none 0 0), (Value.slice none 0 0)), (Value.slice none 0 0)) (trivial) rfl (by rfl) (resN rfl (by decide) (rv_cons (rv_cell (ys := _) 4 rfl rfl Try.isAgg27 Try.sizeOf27 rfl) (rv_cons (rv_tmp' rfl (by rfl)) (rv_cons (rv_tmp' rfl (by rfl)) rv_nil))))
theorem playMoveS_own (m : TMove) (l : List TMoveAct) (hs : m.size ≤ 1048576) (hl : sizeL TMoveAct.size l ≤ 1048576) : GSpec Try.prog 20 [AV.agg m.cs, AV.list 5 (l.map TMoveAct.cs)] [] (fun _ : (Value × Value) × Value => True) (fun x => TMove.ow (playMoveS m l).1 x.1 ++ [boolO x.2 (playMoveS m l).2.1]) (fun x => AV.tup [AV.agg (TMove.ocs (playMoveS m l).1 x.1), AV.is x.2, AV.bool (playMoveS m l).2.2]) := by
  have hll : l.length ≤ 1048576 := Nat.le_trans sizeL_len hl
  refine gspec_of_awp Try.func20 rfl Try.ntmps20 rfl ?_
  refine awp_seq ?_
  refine awp_region ?_
  refine sq_box rfl rfl rfl rfl (ev_tmp rfl) ?_
  intro b2
  refine sq_alloc rfl rfl rfl rfl Try.zeroValue27 rfl ?_
  intro b4
  refine sq_plain rfl rfl rfl (w_assign rfl ev_cnils) ?_
  refine sq_plain rfl rfl rfl (w_assign rfl ev_cb) ?_
  refine sq_nil ?_
  refine awp_seq ?_
  refine awp_seq ?_
  refine awp_region ?_
  refine sq_plain rfl rfl rfl (w_loadA 1 rfl (ev_tmp rfl) rfl Try.isAgg27 Try.sizeOf27 rfl) ?_
  refine sq_plain rfl rfl rfl (w_call rfl Try.call76 rfl (goodMoveS_spec _ (by assumption)) (evl_cons (ev_tmp rfl) evl_nil)) ?_
  refine sq_plain rfl rfl rfl (w_not rfl (ev_tmp rfl)) ?_
  refine sq_plain rfl rfl rfl (w_move rfl (ev_tmp rfl)) ?_
  refine sq_grd rfl rfl (guard_f rfl rfl rfl) (fun hc => w_move rfl (ev_tmp rfl)) ?_
  refine sq_grd rfl rfl (guard_f rfl rfl rfl) (fun hc => w_llen rfl Try.underlying42 (ev_whn rfl hc)) ?_
  refine sq_grd rfl rfl (guard_f rfl rfl rfl) (fun hc => w_gtr rfl (ev_whn rfl hc) ev_ci) ?_
  refine sq_plain rfl rfl rfl (w_or rfl (ev_tmp rfl) (evif_w rfl)) ?_
  refine sq_nil ?_
  refine awp_cond (ev_tmp rfl) ?_ ?_
  · intro h21
    have he : playMoveS m l = (noMove, [], false) := by unfold playMoveS; rw [if_pos (by simpa only [List.length_map] using h21)]
    rw [he]
    refine awp_seq ?_
    refine awp_region ?_
    refine sq_plain rfl rfl rfl (w_build (places := #[(0, 1), (1, 1), (2, 1), (3, 1), (4, 1), (5, 1), (6, 1)]) rfl Try.underlying27 Try.zeroValue27 (fun w => by kernel_rfl) rfl bp_nil rfl) ?_
    refine sq_storeB0 0 rfl rfl rfl (ev_tmp rfl) (ev_tmp rfl) (as_agg _) rfl Try.sizeOf27 rfl ?_
    refine sq_plain rfl rfl rfl (w_assign rfl ev_cnils) ?_
    refine sq_plain rfl rfl rfl (w_assign rfl ev_cb) ?_
    refine sq_nil ?_
    refine awp_ret ?_
    refine retG_nil 37 3 ?_
    refine retG_nil 37 3 ?_
    refine retG_nil 4 1 ?_
    first | exact retG [2, 1, 0] (y, v) (trivial) rfl (by rfl) (resN rfl (by decide) (rv_cons (rv_cell (ys := _) 3 rfl rfl Try.isAgg27 Try.sizeOf27 rfl) (rv_cons (rv_tmp' rfl (by rfl)) (rv_cons (rv_tmp' rfl (by rfl)) rv_nil)))) | exact retG [2, 1, 0] (((Value.slice none 0 0), (Value.slice none 0 0)), (Value.slice none 0 0)) (trivial) rfl (by rfl) (resN rfl (by decide) (rv_cons (rv_cell (ys := _) 3 rfl rfl Try.isAgg27 Try.sizeOf27 rfl) (rv_cons (rv_tmp' rfl (by rfl)) (rv_cons (rv_tmp' rfl (by rfl)) rv_nil))))
  · intro h21
    have hb : (!goodMoveS m || decide ((30 : Int) < (l.length : Int))) = false := by simpa only [List.length_map] using h21
    have hgm : goodMove m = true := by rw [goodMove_eq]; cases hg : goodMoveS m with | true => rfl | false => (rw [hg] at hb; simp at hb)
    have he : playMoveS m l = ((runS m l).1, (runS m l).2, true) := by unfold playMoveS; rw [if_neg (by rw [hb]; decide)]
    rw [he]
    refine awp_skip ?_
    refine awp_seq ?_
    refine awp_region ?_
    refine sq_plain rfl rfl rfl (w_loadA 1 rfl (ev_tmp rfl) rfl Try.isAgg27 Try.sizeOf27 rfl) ?_
    refine sq_callG [] rfl rfl rfl rfl Try.call81 rfl (l22Own_own m (by omega)) (evl_cons (ev_tmp rfl) evl_nil) rfl ?_
    intro x24 ok24
    refine sq_alloc rfl rfl rfl rfl Try.zeroValue27 rfl ?_
    intro b7
    refine sq_storeB0 0 rfl rfl rfl (ev_tmp rfl) (ev_tmp rfl) (as_agg _) rfl Try.sizeOf27 rfl ?_
    refine sq_nil ?_
    refine awp_seq ?_
    refine awp_region ?_
    refine sq_nilarr 4 1 rfl rfl rfl rfl ev_cnils ?_
    intro v8
    refine sq_nil ?_
    refine awp_seq ?_
    refine awp_seq ?_
    refine awp_region ?_
    refine sq_plain rfl rfl rfl (w_move rfl (ev_tmp rfl)) ?_
    refine sq_plain rfl rfl rfl (w_llen rfl Try.underlying42 (ev_tmp rfl)) ?_
    refine sq_plain rfl rfl rfl (w_move rfl ev_ci) ?_
    refine sq_nil ?_
    refine awp_block ?_
    refine AWP.le (le_pick [1, 1, 1, 0] rfl) ?_
    refine awp_loop_i3 [(4, _), (5, _), (6, _), (7, _), (25, _), (26, _)] _ (fun (i : Nat) (y : Value × Value) (v : Value) => i ≤ l.length ∧ goodMove (runS m (l.take i)).1 = true) (fun (i : Nat) (y : Value × Value) (v : Value) => [.box b7 27 (TMove.ocs (runS m (l.take i)).1 y), .arr y.1 37 3 ((runS m (l.take i)).1.From.map TWrite.cs), .arr y.2 37 3 ((runS m (l.take i)).1.To.map TWrite.cs), .arr v 4 1 ((runS m (l.take i)).2.map fun b => [AV.bool b])]) (fun (i : Nat) (y : Value × Value) (v : Value) => [(8, AV.is v), (27, AV.int i)]) (fun (i : Nat) (y : Value × Value) (v : Value) => l.length - i) (0) (x24) (v8) ?_ (le_eq (by rfl) ⟨rfl, rfl, rfl, rfl, rfl, rfl, rfl, rfl, trivial⟩) ?_
    · exact ⟨Nat.zero_le _, hgm⟩
    intro i y v hinv
    refine awp_seq ?_
    refine awp_region ?_
    refine sq_plain rfl rfl rfl (w_lss rfl (ev_tmp rfl) (ev_tmp rfl)) ?_
    refine sq_nil ?_
    refine awp_seq ?_
    refine awp_cond (ev_tmp rfl) ?_ ?_
    · intro h28
      have k28 := of_decide_eq_true h28; try simp only [List.length_map] at k28
      have hlt : i < l.length := by omega
      obtain ⟨x, hx⟩ := get_some hlt
      have hsz := goodMove_size hinv.2
      have hrl := runS_len m (l.take i)
      rw [List.length_take] at hrl
      have hxs := Nat.le_trans (sizeL_get (f := TMoveAct.size) hx) hl
      refine awp_skip ?_
      refine awp_seq ?_
      refine awp_block ?_
      refine awp_seq ?_
      refine awp_region ?_
      refine sq_plain rfl rfl rfl (w_idxm rfl Try.underlying42 Try.sizeOf39 (ev_tmp rfl) (ev_tmp rfl) hx (by first | omega | ((try simp only [List.length_map, List.length_take, List.length_cons, List.length_nil, chunks_len, szR] at *); omega) | (have hc2 := hc; simp only [Bool.and_eq_true, Bool.or_eq_true, Bool.or_eq_false_iff, Bool.and_eq_false_iff, Bool.not_eq_true', Bool.not_eq_false', decide_eq_true_eq, decide_eq_false_iff_not, beq_iff_eq, bne_iff_ne, List.length_map, List.length_take] at hc2; omega))) ?_
      refine sq_plain rfl rfl rfl (w_loadE rfl (ev_tmp rfl) Try.isAgg39 Try.sizeOf39) ?_
      refine sq_alloc rfl rfl rfl rfl Try.zeroValue39 rfl ?_
      intro b10
      refine sq_storeB0 0 rfl rfl rfl (ev_tmp rfl) (ev_tmp rfl) (as_agg _) rfl Try.sizeOf39 rfl ?_
      refine sq_nil ?_
      refine awp_seq ?_
      refine awp_region ?_
      refine sq_plain rfl rfl rfl (w_assign rfl ev_cb) ?_
      refine sq_nil ?_
      refine awp_seq ?_
      refine awp_seq ?_
      refine awp_region ?_
      refine sq_plain rfl rfl rfl (w_loadA 1 rfl (ev_tmp rfl) rfl Try.isAgg27 Try.sizeOf27 rfl) ?_
      refine sq_plain rfl rfl rfl (w_loadA 0 rfl (ev_tmp rfl) rfl Try.isAgg39 Try.sizeOf39 rfl) ?_
      refine sq_plain rfl rfl rfl (w_callB rfl Try.call88 rfl (l22Good_spec _ _ (by assumption)) (flat_bool _) (evlb_cons (evb_lt (ev_tmp rfl) (lt_agg (lc_cons lt_refl (lc_cons lt_refl (lc_cons lt_refl (lc_cons (lt_arr (List.mem_of_getElem? (i := 2) rfl) le_refl_e) (lc_cons (lt_arr (List.mem_of_getElem? (i := 3) rfl) le_refl_e) (lc_cons lt_refl (lc_cons lt_refl lc_nil))))))))) (evlb_cons (evb (ev_tmp rfl)) evlb_nil))) ?_
      refine sq_nil ?_
      refine awp_cond (ev_tmp rfl) ?_ ?_
      · intro h33
        have hma : isMoveAct (runS m (l.take i)).1 x = true := by rw [isMoveAct_eq]; exact h33
        have hwz := isMoveAct_w hma
        refine awp_seq ?_
        refine awp_region_tree _ 9 (.pure 0 (.pure 2 (.e2 1 (.e2 3 (.pure 4 (.pure 5 (.pure 6 (.e1 7 (.e1 8 .nil))))) 7 (.e1 3 (.pure 4 (.pure 5 (.pure 6 (.e1 8 .nil)))))) 7 (.e1 1 (.e1 3 (.pure 4 (.pure 5 (.pure 6 (.e1 8 .nil))))))))) (by kernel_rfl) (by kernel_rfl) rfl invx_self ?_
        refine bt_plain rfl rfl rfl (fun ext => w_loadA 1 rfl (ev_tmp rfl) rfl Try.isAgg27 Try.sizeOf27 rfl) ?_
        refine bt_plain rfl rfl rfl (fun ext => w_loadA 0 rfl (ev_tmp rfl) rfl Try.isAgg39 Try.sizeOf39 rfl) ?_
        refine bt_e2 ?_ ?_
        · refine eff_s rfl rfl rfl (opE_callB [] rfl Try.call81 rfl (l22Own_own _ (by omega)) rfl (evlb_cons (evb_lt (ev_tmp rfl) (lt_agg (lc_cons lt_refl (lc_cons lt_refl (lc_cons lt_refl (lc_cons (lt_arr (List.mem_of_getElem? (i := 2) rfl) le_refl_e) (lc_cons (lt_arr (List.mem_of_getElem? (i := 3) rfl) le_refl_e) (lc_cons lt_refl (lc_cons lt_refl lc_nil))))))))) evlb_nil) (by first | exact flatO_nil | (intro _; exact flatO_nil) | (intro _; first | exact flat_is _ | exact flat_ik _ _ | exact flat_bool _ | exact flat_str _ | exact flat_nils) | (intro _; refine flat_tup ?_; (repeat (first | exact flatl_nil | (refine flatl_cons (by first | (first | exact flat_is _ | exact flat_ik _ _ | exact flat_bool _ | exact flat_str _ | exact flat_nils) | (refine flat_agg ?_; (repeat (first | exact flatl_nil | (refine flatl_cons (by first | exact flat_is _ | exact flat_ik _ _ | exact flat_bool _ | exact flat_str _ | exact flat_nils) ?_))))) ?_))); done) | (intro _; refine flat_agg ?_; (repeat (first | exact flatl_nil | (refine flatl_cons (by first | exact flat_is _ | exact flat_ik _ _ | exact flat_bool _ | exact flat_str _ | exact flat_nils) ?_))); done) | ((repeat (first | exact flatO_nil | (refine flatO_cons (flatO_box ?_) ?_; (repeat (first | exact flatl_nil | (refine flatl_cons (by first | exact flat_is _ | exact flat_ik _ _ | exact flat_bool _ | exact flat_str _ | exact flat_nils) ?_)))) | (refine flatO_cons (flatO_arr ?_) ?_; (repeat (first | exact flate_nil | (refine flate_map (fun _ => ?_); (first | exact TWrite.flat _ | exact TFeedItem.flat _ | exact TIdx.flat _ | exact TVer.flat _ | (repeat (first | exact flatl_nil | (refine flatl_cons (by first | exact flat_is _ | exact flat_ik _ _ | exact flat_bool _ | exact flat_str _ | exact flat_nils) ?_))))) | (refine flate_rep ?_; (first | exact TWrite.flat _ | exact TFeedItem.flat _ | exact TIdx.flat _ | exact TVer.flat _ | (repeat (first | exact flatl_nil | (refine flatl_cons (by first | exact flat_is _ | exact flat_ik _ _ | exact flat_bool _ | exact flat_str _ | exact flat_nils) ?_))))) | (refine flate_cons ?_ ?_; (first | exact TWrite.flat _ | exact TFeedItem.flat _ | exact TIdx.flat _ | exact TVer.flat _ | (repeat (first | exact flatl_nil | (refine flatl_cons (by first | exact flat_is _ | exact flat_ik _ _ | exact flat_bool _ | exact flat_str _ | exact flat_nils) ?_))))) | refine flate_app ?_ ?_))))); done) | (intro _; (repeat (first | exact flatO_nil | (refine flatO_cons (flatO_box ?_) ?_; (repeat (first | exact flatl_nil | (refine flatl_cons (by first | exact flat_is _ | exact flat_ik _ _ | exact flat_bool _ | exact flat_str _ | exact flat_nils) ?_)))) | (refine flatO_cons (flatO_arr ?_) ?_; (repeat (first | exact flate_nil | (refine flate_map (fun _ => ?_); (first | exact TWrite.flat _ | exact TFeedItem.flat _ | exact TIdx.flat _ | exact TVer.flat _ | (repeat (first | exact flatl_nil | (refine flatl_cons (by first | exact flat_is _ | exact flat_ik _ _ | exact flat_bool _ | exact flat_str _ | exact flat_nils) ?_))))) | (refine flate_rep ?_; (first | exact TWrite.flat _ | exact TFeedItem.flat _ | exact TIdx.flat _ | exact TVer.flat _ | (repeat (first | exact flatl_nil | (refine flatl_cons (by first | exact flat_is _ | exact flat_ik _ _ | exact flat_bool _ | exact flat_str _ | exact flat_nils) ?_))))) | (refine flate_cons ?_ ?_; (first | exact TWrite.flat _ | exact TFeedItem.flat _ | exact TIdx.flat _ | exact TVer.flat _ | (repeat (first | exact flatl_nil | (refine flatl_cons (by first | exact flat_is _ | exact flat_ik _ _ | exact flat_bool _ | exact flat_str _ | exact flat_nils) ?_))))) | refine flate_app ?_ ?_))))); done)) (by first | exact flatO_nil | (intro _; exact flatO_nil) | (intro _; first | exact flat_is _ | exact flat_ik _ _ | exact flat_bool _ | exact flat_str _ | exact flat_nils) | (intro _; refine flat_tup ?_; (repeat (first | exact flatl_nil | (refine flatl_cons (by first | (first | exact flat_is _ | exact flat_ik _ _ | exact flat_bool _ | exact flat_str _ | exact flat_nils) | (refine flat_agg ?_; (repeat (first | exact flatl_nil | (refine flatl_cons (by first | exact flat_is _ | exact flat_ik _ _ | exact flat_bool _ | exact flat_str _ | exact flat_nils) ?_))))) ?_))); done) | (intro _; refine flat_agg ?_; (repeat (first | exact flatl_nil | (refine flatl_cons (by first | exact flat_is _ | exact flat_ik _ _ | exact flat_bool _ | exact flat_str _ | exact flat_nils) ?_))); done) | ((repeat (first | exact flatO_nil | (refine flatO_cons (flatO_box ?_) ?_; (repeat (first | exact flatl_nil | (refine flatl_cons (by first | exact flat_is _ | exact flat_ik _ _ | exact flat_bool _ | exact flat_str _ | exact flat_nils) ?_)))) | (refine flatO_cons (flatO_arr ?_) ?_; (repeat (first | exact flate_nil | (refine flate_map (fun _ => ?_); (first | exact TWrite.flat _ | exact TFeedItem.flat _ | exact TIdx.flat _ | exact TVer.flat _ | (repeat (first | exact flatl_nil | (refine flatl_cons (by first | exact flat_is _ | exact flat_ik _ _ | exact flat_bool _ | exact flat_str _ | exact flat_nils) ?_))))) | (refine flate_rep ?_; (first | exact TWrite.flat _ | exact TFeedItem.flat _ | exact TIdx.flat _ | exact TVer.flat _ | (repeat (first | exact flatl_nil | (refine flatl_cons (by first | exact flat_is _ | exact flat_ik _ _ | exact flat_bool _ | exact flat_str _ | exact flat_nils) ?_))))) | (refine flate_cons ?_ ?_; (first | exact TWrite.flat _ | exact TFeedItem.flat _ | exact TIdx.flat _ | exact TVer.flat _ | (repeat (first | exact flatl_nil | (refine flatl_cons (by first | exact flat_is _ | exact flat_ik _ _ | exact flat_bool _ | exact flat_str _ | exact flat_nils) ?_))))) | refine flate_app ?_ ?_))))); done) | (intro _; (repeat (first | exact flatO_nil | (refine flatO_cons (flatO_box ?_) ?_; (repeat (first | exact flatl_nil | (refine flatl_cons (by first | exact flat_is _ | exact flat_ik _ _ | exact flat_bool _ | exact flat_str _ | exact flat_nils) ?_)))) | (refine flatO_cons (flatO_arr ?_) ?_; (repeat (first | exact flate_nil | (refine flate_map (fun _ => ?_); (first | exact TWrite.flat _ | exact TFeedItem.flat _ | exact TIdx.flat _ | exact TVer.flat _ | (repeat (first | exact flatl_nil | (refine flatl_cons (by first | exact flat_is _ | exact flat_ik _ _ | exact flat_bool _ | exact flat_str _ | exact flat_nils) ?_))))) | (refine flate_rep ?_; (first | exact TWrite.flat _ | exact TFeedItem.flat _ | exact TIdx.flat _ | exact TVer.flat _ | (repeat (first | exact flatl_nil | (refine flatl_cons (by first | exact flat_is _ | exact flat_ik _ _ | exact flat_bool _ | exact flat_str _ | exact flat_nils) ?_))))) | (refine flate_cons ?_ ?_; (first | exact TWrite.flat _ | exact TFeedItem.flat _ | exact TIdx.flat _ | exact TVer.flat _ | (repeat (first | exact flatl_nil | (refine flatl_cons (by first | exact flat_is _ | exact flat_ik _ _ | exact flat_bool _ | exact flat_str _ | exact flat_nils) ?_))))) | refine flate_app ?_ ?_))))); done)) (by first | exact flatO_nil | (intro _; exact flatO_nil) | (intro _; first | exact flat_is _ | exact flat_ik _ _ | exact flat_bool _ | exact flat_str _ | exact flat_nils) | (intro _; refine flat_tup ?_; (repeat (first | exact flatl_nil | (refine flatl_cons (by first | (first | exact flat_is _ | exact flat_ik _ _ | exact flat_bool _ | exact flat_str _ | exact flat_nils) | (refine flat_agg ?_; (repeat (first | exact flatl_nil | (refine flatl_cons (by first | exact flat_is _ | exact flat_ik _ _ | exact flat_bool _ | exact flat_str _ | exact flat_nils) ?_))))) ?_))); done) | (intro _; refine flat_agg ?_; (repeat (first | exact flatl_nil | (refine flatl_cons (by first | exact flat_is _ | exact flat_ik _ _ | exact flat_bool _ | exact flat_str _ | exact flat_nils) ?_))); done) | ((repeat (first | exact flatO_nil | (refine flatO_cons (flatO_box ?_) ?_; (repeat (first | exact flatl_nil | (refine flatl_cons (by first | exact flat_is _ | exact flat_ik _ _ | exact flat_bool _ | exact flat_str _ | exact flat_nils) ?_)))) | (refine flatO_cons (flatO_arr ?_) ?_; (repeat (first | exact flate_nil | (refine flate_map (fun _ => ?_); (first | exact TWrite.flat _ | exact TFeedItem.flat _ | exact TIdx.flat _ | exact TVer.flat _ | (repeat (first | exact flatl_nil | (refine flatl_cons (by first | exact flat_is _ | exact flat_ik _ _ | exact flat_bool _ | exact flat_str _ | exact flat_nils) ?_))))) | (refine flate_rep ?_; (first | exact TWrite.flat _ | exact TFeedItem.flat _ | exact TIdx.flat _ | exact TVer.flat _ | (repeat (first | exact flatl_nil | (refine flatl_cons (by first | exact flat_is _ | exact flat_ik _ _ | exact flat_bool _ | exact flat_str _ | exact flat_nils) ?_))))) | (refine flate_cons ?_ ?_; (first | exact TWrite.flat _ | exact TFeedItem.flat _ | exact TIdx.flat _ | exact TVer.flat _ | (repeat (first | exact flatl_nil | (refine flatl_cons (by first | exact flat_is _ | exact flat_ik _ _ | exact flat_bool _ | exact flat_str _ | exact flat_nils) ?_))))) | refine flate_app ?_ ?_))))); done) | (intro _; (repeat (first | exact flatO_nil | (refine flatO_cons (flatO_box ?_) ?_; (repeat (first | exact flatl_nil | (refine flatl_cons (by first | exact flat_is _ | exact flat_ik _ _ | exact flat_bool _ | exact flat_str _ | exact flat_nils) ?_)))) | (refine flatO_cons (flatO_arr ?_) ?_; (repeat (first | exact flate_nil | (refine flate_map (fun _ => ?_); (first | exact TWrite.flat _ | exact TFeedItem.flat _ | exact TIdx.flat _ | exact TVer.flat _ | (repeat (first | exact flatl_nil | (refine flatl_cons (by first | exact flat_is _ | exact flat_ik _ _ | exact flat_bool _ | exact flat_str _ | exact flat_nils) ?_))))) | (refine flate_rep ?_; (first | exact TWrite.flat _ | exact TFeedItem.flat _ | exact TIdx.flat _ | exact TVer.flat _ | (repeat (first | exact flatl_nil | (refine flatl_cons (by first | exact flat_is _ | exact flat_ik _ _ | exact flat_bool _ | exact flat_str _ | exact flat_nils) ?_))))) | (refine flate_cons ?_ ?_; (first | exact TWrite.flat _ | exact TFeedItem.flat _ | exact TIdx.flat _ | exact TVer.flat _ | (repeat (first | exact flatl_nil | (refine flatl_cons (by first | exact flat_is _ | exact flat_ik _ _ | exact flat_bool _ | exact flat_str _ | exact flat_nils) ?_))))) | refine flate_app ?_ ?_))))); done))) (fun a _ => (by first | exact invx_mk rfl | exact invx_mk (List.append_assoc _ _ _) | exact invx_all)) ?_
          intro x36 ok36
          refine bt_e2 ?_ ?_
          · refine eff_s rfl rfl rfl (opE_call [7, 7] rfl Try.call89 rfl (l22Do_own _ (x36.1, x36.2) x (by omega) (by omega) hma) (evl_cons (ev_tmp rfl) (evl_cons (ev_tmp rfl) evl_nil)) rfl) (fun a _ => (by first | exact invx_mk rfl | exact invx_mk (List.append_assoc _ _ _) | exact invx_all)) ?_
            intro x38 ok38
            refine bt_plain rfl rfl rfl (fun ext => w_move rfl (ev_tmp rfl)) ?_
            refine bt_plain rfl rfl rfl (fun ext => w_extract rfl (ev_tmp rfl) rfl) ?_
            refine bt_plain rfl rfl rfl (fun ext => w_extract rfl (ev_tmp rfl) rfl) ?_
            refine bt_e1 ?_
            refine eff_s rfl rfl rfl (opE_alloc rfl Try.zeroValue27 rfl) (fun a _ => (by first | exact invx_mk rfl | exact invx_mk (List.append_assoc _ _ _) | exact invx_all)) ?_
            intro b12 _
            refine bt_e1 ?_
            refine eff_s0 rfl rfl rfl (opE_storeB0 9 rfl rfl (ev_tmp rfl) (ev_tmp rfl) (as_agg _) rfl Try.sizeOf27 rfl) (fun a _ => (by first | exact invx_mk rfl | exact invx_mk (List.append_assoc _ _ _) | exact invx_all)) ?_
            intro _ _
            refine bt_nil ?_
            refine sq_plain rfl rfl rfl (w_assign rfl (ev_tmp rfl)) ?_
            refine sq_nil ?_
            refine awp_seq ?_
            refine awp_seq ?_
            refine awp_own (by first | (simp only [TMove.ow, TMove.ocs, pick, List.eraseIdx_cons_zero, List.eraseIdx_cons_succ, List.set_cons_zero, List.set_cons_succ, List.cons_append, List.nil_append, List.getElem?_cons_zero, List.getElem?_cons_succ, List.append_nil, List.take_succ_cons, List.take_zero, List.drop_succ_cons, List.drop_zero]; exact rfl) | exact rfl) ?_
            refine awp_region ?_
            refine sq_plain rfl rfl rfl (w_move rfl (ev_tmp rfl)) ?_
            refine sq_nil ?_
            refine awp_cond (ev_tmp rfl) ?_ ?_
            · intro h41
              refine awp_region ?_
              refine sq_plain rfl rfl rfl (w_loadA 9 rfl (ev_tmp rfl) rfl Try.isAgg27 Try.sizeOf27 rfl) ?_
              refine sq_storeB0 1 rfl rfl rfl (ev_tmp rfl) (ev_tmp rfl) (as_agg _) rfl Try.sizeOf27 rfl ?_
              refine sq_nil ?_
              refine awp_region ?_
              refine sq_plain rfl rfl rfl (w_move rfl (ev_tmp rfl)) ?_
              refine sq_plain rfl rfl rfl (w_assign rfl (ev_tmp rfl)) ?_
              refine sq_nil ?_
              refine awp_own (by first | (simp only [TMove.ow, TMove.ocs, pick, List.eraseIdx_cons_zero, List.eraseIdx_cons_succ, List.set_cons_zero, List.set_cons_succ, List.cons_append, List.nil_append, List.getElem?_cons_zero, List.getElem?_cons_succ, List.append_nil, List.take_succ_cons, List.take_zero, List.drop_succ_cons, List.drop_zero]; exact rfl) | exact rfl) ?_
              refine awp_region ?_
              refine sq_plain rfl rfl rfl (w_move rfl (ev_tmp rfl)) ?_
              refine sq_plain rfl rfl rfl (w_move rfl (ev_tmp rfl)) ?_
              refine sq_plain rfl rfl rfl (w_bslice rfl Try.underlying46 Try.sizeOf4 Try.zeroValue4 rfl rfl rfl rfl (bp_cons (ev_tmp rfl) (as_bool _) bp_nil) rfl rfl) ?_
              refine sq_append (by' := 1) 4 rfl rfl rfl rfl Try.underlying46 Try.type4 rfl rfl rfl rfl rfl rfl (ev_tmp rfl) (ev_tmp rfl) rfl (by simp only [chunks_len, List.length_append, List.length_nil, List.length_map, List.length_take, List.length_cons, List.length_drop]; omega) ?_
              intro v47_4
              refine sq_plain rfl rfl rfl (w_assign rfl (ev_tmp rfl)) ?_
              refine sq_nil ?_
              refine awp_region ?_
              refine sq_plain rfl rfl rfl (w_addi rfl (ev_tmp rfl) ev_ci (by first | omega | ((try simp only [List.length_map, List.length_take, List.length_cons, List.length_nil, chunks_len, szR] at *); omega) | (have hc2 := hc; simp only [Bool.and_eq_true, Bool.or_eq_true, Bool.or_eq_false_iff, Bool.and_eq_false_iff, Bool.not_eq_true', Bool.not_eq_false', decide_eq_true_eq, decide_eq_false_iff_not, beq_iff_eq, bne_iff_ne, List.length_map, List.length_take] at hc2; omega))) ?_
              refine sq_plain rfl rfl rfl (w_move rfl (ev_tmp rfl)) ?_
              refine sq_nil ?_
              refine round_end3 i y v (i + 1) ((x38.1, x38.2)) (v47_4) ?_ ?_ (Le.trans (le_pick [0, 1, 1, 6, 0, 3, 3, 0] rfl) (le_dropeq 4 (by first | (rw [runS_next hx, show oneS (runS m (l.take i)).1 x = ((doS (runS m (l.take i)).1 x).1, true) from by unfold oneS stepMS; rw [if_pos h33, if_pos h41]]; simp only [h41, List.map_append, List.map_cons, List.map_nil]; rfl) | (rw [runS_next hx, show oneS (runS m (l.take i)).1 x = ((runS m (l.take i)).1, false) from by unfold oneS stepMS; first | rw [if_pos h33, if_neg (by rw [h41]; decide)] | rw [if_neg (by rw [h33]; decide)]]; (try simp only [h41]); simp only [List.map_append, List.map_cons, List.map_nil]; rfl)) ⟨rfl, rfl, rfl, rfl, rfl, rfl, rfl, rfl, trivial⟩))
              · exact ⟨by omega, runS_good hgm _⟩
              · omega
            · intro h41
              refine awp_skip ?_
              refine awp_region ?_
              refine sq_plain rfl rfl rfl (w_move rfl (ev_tmp rfl)) ?_
              refine sq_plain rfl rfl rfl (w_assign rfl (ev_tmp rfl)) ?_
              refine sq_nil ?_
              refine awp_own (by first | (simp only [TMove.ow, TMove.ocs, pick, List.eraseIdx_cons_zero, List.eraseIdx_cons_succ, List.set_cons_zero, List.set_cons_succ, List.cons_append, List.nil_append, List.getElem?_cons_zero, List.getElem?_cons_succ, List.append_nil, List.take_succ_cons, List.take_zero, List.drop_succ_cons, List.drop_zero]; exact rfl) | exact rfl) ?_
              refine awp_region ?_
              refine sq_plain rfl rfl rfl (w_move rfl (ev_tmp rfl)) ?_
              refine sq_plain rfl rfl rfl (w_move rfl (ev_tmp rfl)) ?_
              refine sq_plain rfl rfl rfl (w_bslice rfl Try.underlying46 Try.sizeOf4 Try.zeroValue4 rfl rfl rfl rfl (bp_cons (ev_tmp rfl) (as_bool _) bp_nil) rfl rfl) ?_
              refine sq_append (by' := 1) 4 rfl rfl rfl rfl Try.underlying46 Try.type4 rfl rfl rfl rfl rfl rfl (ev_tmp rfl) (ev_tmp rfl) rfl (by simp only [chunks_len, List.length_append, List.length_nil, List.length_map, List.length_take, List.length_cons, List.length_drop]; omega) ?_
              intro v47_5
              refine sq_plain rfl rfl rfl (w_assign rfl (ev_tmp rfl)) ?_
              refine sq_nil ?_
              refine awp_region ?_
              refine sq_plain rfl rfl rfl (w_addi rfl (ev_tmp rfl) ev_ci (by first | omega | ((try simp only [List.length_map, List.length_take, List.length_cons, List.length_nil, chunks_len, szR] at *); omega) | (have hc2 := hc; simp only [Bool.and_eq_true, Bool.or_eq_true, Bool.or_eq_false_iff, Bool.and_eq_false_iff, Bool.not_eq_true', Bool.not_eq_false', decide_eq_true_eq, decide_eq_false_iff_not, beq_iff_eq, bne_iff_ne, List.length_map, List.length_take] at hc2; omega))) ?_
              refine sq_plain rfl rfl rfl (w_move rfl (ev_tmp rfl)) ?_
              refine sq_nil ?_
              refine round_end3 i y v (i + 1) (y) (v47_5) ?_ ?_ (Le.trans (le_pick [0, 6, 6, 6, 0, 0, 0, 0] rfl) (le_dropeq 4 (by first | (rw [runS_next hx, show oneS (runS m (l.take i)).1 x = ((doS (runS m (l.take i)).1 x).1, true) from by unfold oneS stepMS; rw [if_pos h33, if_pos h41]]; simp only [h41, List.map_append, List.map_cons, List.map_nil]; rfl) | (rw [runS_next hx, show oneS (runS m (l.take i)).1 x = ((runS m (l.take i)).1, false) from by unfold oneS stepMS; first | rw [if_pos h33, if_neg (by rw [h41]; decide)] | rw [if_neg (by rw [h33]; decide)]]; (try simp only [h41]); simp only [List.map_append, List.map_cons, List.map_nil]; rfl)) ⟨rfl, rfl, rfl, rfl, rfl, rfl, rfl, rfl, trivial⟩))
              · exact ⟨by omega, runS_good hgm _⟩
              · omega
          · refine eff_s rfl rfl rfl (opE_alloc rfl Try.zeroValue27 rfl) (fun a _ => (by first | exact invx_mk rfl | exact invx_mk (List.append_assoc _ _ _) | exact invx_all)) ?_
            intro b12 _
            refine bt_e1 ?_
            refine eff_s rfl rfl rfl (opE_call [7, 7] rfl Try.call89 rfl (l22Do_own _ (x36.1, x36.2) x (by omega) (by omega) hma) (evl_cons (ev_tmp rfl) (evl_cons (ev_tmp rfl) evl_nil)) rfl) (fun a _ => (by first | exact invx_mk rfl | exact invx_mk (List.append_assoc _ _ _) | exact invx_all)) ?_
            intro x38 ok38
            refine bt_plain rfl rfl rfl (fun ext => w_move rfl (ev_tmp rfl)) ?_
            refine bt_plain rfl rfl rfl (fun ext => w_extract rfl (ev_tmp rfl) rfl) ?_
            refine bt_plain rfl rfl rfl (fun ext => w_extract rfl (ev_tmp rfl) rfl) ?_
            refine bt_e1 ?_
            refine eff_s0 rfl rfl rfl (opE_storeB0 7 rfl rfl (ev_tmp rfl) (ev_tmp rfl) (as_agg _) rfl Try.sizeOf27 rfl) (fun a _ => (by first | exact invx_mk rfl | exact invx_mk (List.append_assoc _ _ _) | exact invx_all)) ?_
            intro _ _
            refine bt_nil ?_
            refine sq_plain rfl rfl rfl (w_assign rfl (ev_tmp rfl)) ?_
            refine sq_nil ?_
            refine awp_seq ?_
            refine awp_seq ?_
            refine awp_own (by first | (simp only [TMove.ow, TMove.ocs, pick, List.eraseIdx_cons_zero, List.eraseIdx_cons_succ, List.set_cons_zero, List.set_cons_succ, List.cons_append, List.nil_append, List.getElem?_cons_zero, List.getElem?_cons_succ, List.append_nil, List.take_succ_cons, List.take_zero, List.drop_succ_cons, List.drop_zero]; exact rfl) | exact rfl) ?_
            refine awp_region ?_
            refine sq_plain rfl rfl rfl (w_move rfl (ev_tmp rfl)) ?_
            refine sq_nil ?_
            refine awp_cond (ev_tmp rfl) ?_ ?_
            · intro h41
              refine awp_region ?_
              refine sq_plain rfl rfl rfl (w_loadA 7 rfl (ev_tmp rfl) rfl Try.isAgg27 Try.sizeOf27 rfl) ?_
              refine sq_storeB0 1 rfl rfl rfl (ev_tmp rfl) (ev_tmp rfl) (as_agg _) rfl Try.sizeOf27 rfl ?_
              refine sq_nil ?_
              refine awp_region ?_
              refine sq_plain rfl rfl rfl (w_move rfl (ev_tmp rfl)) ?_
              refine sq_plain rfl rfl rfl (w_assign rfl (ev_tmp rfl)) ?_
              refine sq_nil ?_
              refine awp_own (by first | (simp only [TMove.ow, TMove.ocs, pick, List.eraseIdx_cons_zero, List.eraseIdx_cons_succ, List.set_cons_zero, List.set_cons_succ, List.cons_append, List.nil_append, List.getElem?_cons_zero, List.getElem?_cons_succ, List.append_nil, List.take_succ_cons, List.take_zero, List.drop_succ_cons, List.drop_zero]; exact rfl) | exact rfl) ?_
              refine awp_region ?_
              refine sq_plain rfl rfl rfl (w_move rfl (ev_tmp rfl)) ?_
              refine sq_plain rfl rfl rfl (w_move rfl (ev_tmp rfl)) ?_
              refine sq_plain rfl rfl rfl (w_bslice rfl Try.underlying46 Try.sizeOf4 Try.zeroValue4 rfl rfl rfl rfl (bp_cons (ev_tmp rfl) (as_bool _) bp_nil) rfl rfl) ?_
              refine sq_append (by' := 1) 4 rfl rfl rfl rfl Try.underlying46 Try.type4 rfl rfl rfl rfl rfl rfl (ev_tmp rfl) (ev_tmp rfl) rfl (by simp only [chunks_len, List.length_append, List.length_nil, List.length_map, List.length_take, List.length_cons, List.length_drop]; omega) ?_
              intro v47_6
              refine sq_plain rfl rfl rfl (w_assign rfl (ev_tmp rfl)) ?_
              refine sq_nil ?_
              refine awp_region ?_
              refine sq_plain rfl rfl rfl (w_addi rfl (ev_tmp rfl) ev_ci (by first | omega | ((try simp only [List.length_map, List.length_take, List.length_cons, List.length_nil, chunks_len, szR] at *); omega) | (have hc2 := hc; simp only [Bool.and_eq_true, Bool.or_eq_true, Bool.or_eq_false_iff, Bool.and_eq_false_iff, Bool.not_eq_true', Bool.not_eq_false', decide_eq_true_eq, decide_eq_false_iff_not, beq_iff_eq, bne_iff_ne, List.length_map, List.length_take] at hc2; omega))) ?_
              refine sq_plain rfl rfl rfl (w_move rfl (ev_tmp rfl)) ?_
              refine sq_nil ?_
              refine round_end3 i y v (i + 1) ((x38.1, x38.2)) (v47_6) ?_ ?_ (Le.trans (le_pick [0, 1, 1, 4, 0, 3, 3, 0] rfl) (le_dropeq 4 (by first | (rw [runS_next hx, show oneS (runS m (l.take i)).1 x = ((doS (runS m (l.take i)).1 x).1, true) from by unfold oneS stepMS; rw [if_pos h33, if_pos h41]]; simp only [h41, List.map_append, List.map_cons, List.map_nil]; rfl) | (rw [runS_next hx, show oneS (runS m (l.take i)).1 x = ((runS m (l.take i)).1, false) from by unfold oneS stepMS; first | rw [if_pos h33, if_neg (by rw [h41]; decide)] | rw [if_neg (by rw [h33]; decide)]]; (try simp only [h41]); simp only [List.map_append, List.map_cons, List.map_nil]; rfl)) ⟨rfl, rfl, rfl, rfl, rfl, rfl, rfl, rfl, trivial⟩))
              · exact ⟨by omega, runS_good hgm _⟩
              · omega
            · intro h41
              refine awp_skip ?_
              refine awp_region ?_
              refine sq_plain rfl rfl rfl (w_move rfl (ev_tmp rfl)) ?_
              refine sq_plain rfl rfl rfl (w_assign rfl (ev_tmp rfl)) ?_
              refine sq_nil ?_
              refine awp_own (by first | (simp only [TMove.ow, TMove.ocs, pick, List.eraseIdx_cons_zero, List.eraseIdx_cons_succ, List.set_cons_zero, List.set_cons_succ, List.cons_append, List.nil_append, List.getElem?_cons_zero, List.getElem?_cons_succ, List.append_nil, List.take_succ_cons, List.take_zero, List.drop_succ_cons, List.drop_zero]; exact rfl) | exact rfl) ?_
              refine awp_region ?_
              refine sq_plain rfl rfl rfl (w_move rfl (ev_tmp rfl)) ?_
              refine sq_plain rfl rfl rfl (w_move rfl (ev_tmp rfl)) ?_
              refine sq_plain rfl rfl rfl (w_bslice rfl Try.underlying46 Try.sizeOf4 Try.zeroValue4 rfl rfl rfl rfl (bp_cons (ev_tmp rfl) (as_bool _) bp_nil) rfl rfl) ?_
              refine sq_append (by' := 1) 4 rfl rfl rfl rfl Try.underlying46 Try.type4 rfl rfl rfl rfl rfl rfl (ev_tmp rfl) (ev_tmp rfl) rfl (by simp only [chunks_len, List.length_append, List.length_nil, List.length_map, List.length_take, List.length_cons, List.length_drop]; omega) ?_
              intro v47_7
              refine sq_plain rfl rfl rfl (w_assign rfl (ev_tmp rfl)) ?_
              refine sq_nil ?_
              refine awp_region ?_
              refine sq_plain rfl rfl rfl (w_addi rfl (ev_tmp rfl) ev_ci (by first | omega | ((try simp only [List.length_map, List.length_take, List.length_cons, List.length_nil, chunks_len, szR] at *); omega) | (have hc2 := hc; simp only [Bool.and_eq_true, Bool.or_eq_true, Bool.or_eq_false_iff, Bool.and_eq_false_iff, Bool.not_eq_true', Bool.not_eq_false', decide_eq_true_eq, decide_eq_false_iff_not, beq_iff_eq, bne_iff_ne, List.length_map, List.length_take] at hc2; omega))) ?_
              refine sq_plain rfl rfl rfl (w_move rfl (ev_tmp rfl)) ?_
              refine sq_nil ?_
              refine round_end3 i y v (i + 1) (y) (v47_7) ?_ ?_ (Le.trans (le_pick [0, 6, 6, 6, 0, 0, 0, 0] rfl) (le_dropeq 4 (by first | (rw [runS_next hx, show oneS (runS m (l.take i)).1 x = ((doS (runS m (l.take i)).1 x).1, true) from by unfold oneS stepMS; rw [if_pos h33, if_pos h41]]; simp only [h41, List.map_append, List.map_cons, List.map_nil]; rfl) | (rw [runS_next hx, show oneS (runS m (l.take i)).1 x = ((runS m (l.take i)).1, false) from by unfold oneS stepMS; first | rw [if_pos h33, if_neg (by rw [h41]; decide)] | rw [if_neg (by rw [h33]; decide)]]; (try simp only [h41]); simp only [List.map_append, List.map_cons, List.map_nil]; rfl)) ⟨rfl, rfl, rfl, rfl, rfl, rfl, rfl, rfl, trivial⟩))
              · exact ⟨by omega, runS_good hgm _⟩
              · omega
        · refine eff_s rfl rfl rfl (opE_alloc rfl Try.zeroValue27 rfl) (fun a _ => (by first | exact invx_mk rfl | exact invx_mk (List.append_assoc _ _ _) | exact invx_all)) ?_
          intro b12 _
          refine bt_e1 ?_
          refine eff_s rfl rfl rfl (opE_callB [] rfl Try.call81 rfl (l22Own_own _ (by omega)) rfl (evlb_cons (evb_lt (ev_tmp rfl) (lt_agg (lc_cons lt_refl (lc_cons lt_refl (lc_cons lt_refl (lc_cons (lt_arr (List.mem_of_getElem? (i := 2) rfl) le_refl_e) (lc_cons (lt_arr (List.mem_of_getElem? (i := 3) rfl) le_refl_e) (lc_cons lt_refl (lc_cons lt_refl lc_nil))))))))) evlb_nil) (by first | exact flatO_nil | (intro _; exact flatO_nil) | (intro _; first | exact flat_is _ | exact flat_ik _ _ | exact flat_bool _ | exact flat_str _ | exact flat_nils) | (intro _; refine flat_tup ?_; (repeat (first | exact flatl_nil | (refine flatl_cons (by first | (first | exact flat_is _ | exact flat_ik _ _ | exact flat_bool _ | exact flat_str _ | exact flat_nils) | (refine flat_agg ?_; (repeat (first | exact flatl_nil | (refine flatl_cons (by first | exact flat_is _ | exact flat_ik _ _ | exact flat_bool _ | exact flat_str _ | exact flat_nils) ?_))))) ?_))); done) | (intro _; refine flat_agg ?_; (repeat (first | exact flatl_nil | (refine flatl_cons (by first | exact flat_is _ | exact flat_ik _ _ | exact flat_bool _ | exact flat_str _ | exact flat_nils) ?_))); done) | ((repeat (first | exact flatO_nil | (refine flatO_cons (flatO_box ?_) ?_; (repeat (first | exact flatl_nil | (refine flatl_cons (by first | exact flat_is _ | exact flat_ik _ _ | exact flat_bool _ | exact flat_str _ | exact flat_nils) ?_)))) | (refine flatO_cons (flatO_arr ?_) ?_; (repeat (first | exact flate_nil | (refine flate_map (fun _ => ?_); (first | exact TWrite.flat _ | exact TFeedItem.flat _ | exact TIdx.flat _ | exact TVer.flat _ | (repeat (first | exact flatl_nil | (refine flatl_cons (by first | exact flat_is _ | exact flat_ik _ _ | exact flat_bool _ | exact flat_str _ | exact flat_nils) ?_))))) | (refine flate_rep ?_; (first | exact TWrite.flat _ | exact TFeedItem.flat _ | exact TIdx.flat _ | exact TVer.flat _ | (repeat (first | exact flatl_nil | (refine flatl_cons (by first | exact flat_is _ | exact flat_ik _ _ | exact flat_bool _ | exact flat_str _ | exact flat_nils) ?_))))) | (refine flate_cons ?_ ?_; (first | exact TWrite.flat _ | exact TFeedItem.flat _ | exact TIdx.flat _ | exact TVer.flat _ | (repeat (first | exact flatl_nil | (refine flatl_cons (by first | exact flat_is _ | exact flat_ik _ _ | exact flat_bool _ | exact flat_str _ | exact flat_nils) ?_))))) | refine flate_app ?_ ?_))))); done) | (intro _; (repeat (first | exact flatO_nil | (refine flatO_cons (flatO_box ?_) ?_; (repeat (first | exact flatl_nil | (refine flatl_cons (by first | exact flat_is _ | exact flat_ik _ _ | exact flat_bool _ | exact flat_str _ | exact flat_nils) ?_)))) | (refine flatO_cons (flatO_arr ?_) ?_; (repeat (first | exact flate_nil | (refine flate_map (fun _ => ?_); (first | exact TWrite.flat _ | exact TFeedItem.flat _ | exact TIdx.flat _ | exact TVer.flat _ | (repeat (first | exact flatl_nil | (refine flatl_cons (by first | exact flat_is _ | exact flat_ik _ _ | exact flat_bool _ | exact flat_str _ | exact flat_nils) ?_))))) | (refine flate_rep ?_; (first | exact TWrite.flat _ | exact TFeedItem.flat _ | exact TIdx.flat _ | exact TVer.flat _ | (repeat (first | exact flatl_nil | (refine flatl_cons (by first | exact flat_is _ | exact flat_ik _ _ | exact flat_bool _ | exact flat_str _ | exact flat_nils) ?_))))) | (refine flate_cons ?_ ?_; (first | exact TWrite.flat _ | exact TFeedItem.flat _ | exact TIdx.flat _ | exact TVer.flat _ | (repeat (first | exact flatl_nil | (refine flatl_cons (by first | exact flat_is _ | exact flat_ik _ _ | exact flat_bool _ | exact flat_str _ | exact flat_nils) ?_))))) | refine flate_app ?_ ?_))))); done)) (by first | exact flatO_nil | (intro _; exact flatO_nil) | (intro _; first | exact flat_is _ | exact flat_ik _ _ | exact flat_bool _ | exact flat_str _ | exact flat_nils) | (intro _; refine flat_tup ?_; (repeat (first | exact flatl_nil | (refine flatl_cons (by first | (first | exact flat_is _ | exact flat_ik _ _ | exact flat_bool _ | exact flat_str _ | exact flat_nils) | (refine flat_agg ?_; (repeat (first | exact flatl_nil | (refine flatl_cons (by first | exact flat_is _ | exact flat_ik _ _ | exact flat_bool _ | exact flat_str _ | exact flat_nils) ?_))))) ?_))); done) | (intro _; refine flat_agg ?_; (repeat (first | exact flatl_nil | (refine flatl_cons (by first | exact flat_is _ | exact flat_ik _ _ | exact flat_bool _ | exact flat_str _ | exact flat_nils) ?_))); done) | ((repeat (first | exact flatO_nil | (refine flatO_cons (flatO_box ?_) ?_; (repeat (first | exact flatl_nil | (refine flatl_cons (by first | exact flat_is _ | exact flat_ik _ _ | exact flat_bool _ | exact flat_str _ | exact flat_nils) ?_)))) | (refine flatO_cons (flatO_arr ?_) ?_; (repeat (first | exact flate_nil | (refine flate_map (fun _ => ?_); (first | exact TWrite.flat _ | exact TFeedItem.flat _ | exact TIdx.flat _ | exact TVer.flat _ | (repeat (first | exact flatl_nil | (refine flatl_cons (by first | exact flat_is _ | exact flat_ik _ _ | exact flat_bool _ | exact flat_str _ | exact flat_nils) ?_))))) | (refine flate_rep ?_; (first | exact TWrite.flat _ | exact TFeedItem.flat _ | exact TIdx.flat _ | exact TVer.flat _ | (repeat (first | exact flatl_nil | (refine flatl_cons (by first | exact flat_is _ | exact flat_ik _ _ | exact flat_bool _ | exact flat_str _ | exact flat_nils) ?_))))) | (refine flate_cons ?_ ?_; (first | exact TWrite.flat _ | exact TFeedItem.flat _ | exact TIdx.flat _ | exact TVer.flat _ | (repeat (first | exact flatl_nil | (refine flatl_cons (by first | exact flat_is _ | exact flat_ik _ _ | exact flat_bool _ | exact flat_str _ | exact flat_nils) ?_))))) | refine flate_app ?_ ?_))))); done) | (intro _; (repeat (first | exact flatO_nil | (refine flatO_cons (flatO_box ?_) ?_; (repeat (first | exact flatl_nil | (refine flatl_cons (by first | exact flat_is _ | exact flat_ik _ _ | exact flat_bool _ | exact flat_str _ | exact flat_nils) ?_)))) | (refine flatO_cons (flatO_arr ?_) ?_; (repeat (first | exact flate_nil | (refine flate_map (fun _ => ?_); (first | exact TWrite.flat _ | exact TFeedItem.flat _ | exact TIdx.flat _ | exact TVer.flat _ | (repeat (first | exact flatl_nil | (refine flatl_cons (by first | exact flat_is _ | exact flat_ik _ _ | exact flat_bool _ | exact flat_str _ | exact flat_nils) ?_))))) | (refine flate_rep ?_; (first | exact TWrite.flat _ | exact TFeedItem.flat _ | exact TIdx.flat _ | exact TVer.flat _ | (repeat (first | exact flatl_nil | (refine flatl_cons (by first | exact flat_is _ | exact flat_ik _ _ | exact flat_bool _ | exact flat_str _ | exact flat_nils) ?_))))) | (refine flate_cons ?_ ?_; (first | exact TWrite.flat _ | exact TFeedItem.flat _ | exact TIdx.flat _ | exact TVer.flat _ | (repeat (first | exact flatl_nil | (refine flatl_cons (by first | exact flat_is _ | exact flat_ik _ _ | exact flat_bool _ | exact flat_str _ | exact flat_nils) ?_))))) | refine flate_app ?_ ?_))))); done)) (by first | exact flatO_nil | (intro _; exact flatO_nil) | (intro _; first | exact flat_is _ | exact flat_ik _ _ | exact flat_bool _ | exact flat_str _ | exact flat_nils) | (intro _; refine flat_tup ?_; (repeat (first | exact flatl_nil | (refine flatl_cons (by first | (first | exact flat_is _ | exact flat_ik _ _ | exact flat_bool _ | exact flat_str _ | exact flat_nils) | (refine flat_agg ?_; (repeat (first | exact flatl_nil | (refine flatl_cons (by first | exact flat_is _ | exact flat_ik _ _ | exact flat_bool _ | exact flat_str _ | exact flat_nils) ?_))))) ?_))); done) | (intro _; refine flat_agg ?_; (repeat (first | exact flatl_nil | (refine flatl_cons (by first | exact flat_is _ | exact flat_ik _ _ | exact flat_bool _ | exact flat_str _ | exact flat_nils) ?_))); done) | ((repeat (first | exact flatO_nil | (refine flatO_cons (flatO_box ?_) ?_; (repeat (first | exact flatl_nil | (refine flatl_cons (by first | exact flat_is _ | exact flat_ik _ _ | exact flat_bool _ | exact flat_str _ | exact flat_nils) ?_)))) | (refine flatO_cons (flatO_arr ?_) ?_; (repeat (first | exact flate_nil | (refine flate_map (fun _ => ?_); (first | exact TWrite.flat _ | exact TFeedItem.flat _ | exact TIdx.flat _ | exact TVer.flat _ | (repeat (first | exact flatl_nil | (refine flatl_cons (by first | exact flat_is _ | exact flat_ik _ _ | exact flat_bool _ | exact flat_str _ | exact flat_nils) ?_))))) | (refine flate_rep ?_; (first | exact TWrite.flat _ | exact TFeedItem.flat _ | exact TIdx.flat _ | exact TVer.flat _ | (repeat (first | exact flatl_nil | (refine flatl_cons (by first | exact flat_is _ | exact flat_ik _ _ | exact flat_bool _ | exact flat_str _ | exact flat_nils) ?_))))) | (refine flate_cons ?_ ?_; (first | exact TWrite.flat _ | exact TFeedItem.flat _ | exact TIdx.flat _ | exact TVer.flat _ | (repeat (first | exact flatl_nil | (refine flatl_cons (by first | exact flat_is _ | exact flat_ik _ _ | exact flat_bool _ | exact flat_str _ | exact flat_nils) ?_))))) | refine flate_app ?_ ?_))))); done) | (intro _; (repeat (first | exact flatO_nil | (refine flatO_cons (flatO_box ?_) ?_; (repeat (first | exact flatl_nil | (refine flatl_cons (by first | exact flat_is _ | exact flat_ik _ _ | exact flat_bool _ | exact flat_str _ | exact flat_nils) ?_)))) | (refine flatO_cons (flatO_arr ?_) ?_; (repeat (first | exact flate_nil | (refine flate_map (fun _ => ?_); (first | exact TWrite.flat _ | exact TFeedItem.flat _ | exact TIdx.flat _ | exact TVer.flat _ | (repeat (first | exact flatl_nil | (refine flatl_cons (by first | exact flat_is _ | exact flat_ik _ _ | exact flat_bool _ | exact flat_str _ | exact flat_nils) ?_))))) | (refine flate_rep ?_; (first | exact TWrite.flat _ | exact TFeedItem.flat _ | exact TIdx.flat _ | exact TVer.flat _ | (repeat (first | exact flatl_nil | (refine flatl_cons (by first | exact flat_is _ | exact flat_ik _ _ | exact flat_bool _ | exact flat_str _ | exact flat_nils) ?_))))) | (refine flate_cons ?_ ?_; (first | exact TWrite.flat _ | exact TFeedItem.flat _ | exact TIdx.flat _ | exact TVer.flat _ | (repeat (first | exact flatl_nil | (refine flatl_cons (by first | exact flat_is _ | exact flat_ik _ _ | exact flat_bool _ | exact flat_str _ | exact flat_nils) ?_))))) | refine flate_app ?_ ?_))))); done))) (fun a _ => (by first | exact invx_mk rfl | exact invx_mk (List.append_assoc _ _ _) | exact invx_all)) ?_
          intro x36 ok36
          refine bt_e1 ?_
          refine eff_s rfl rfl rfl (opE_call [8, 8] rfl Try.call89 rfl (l22Do_own _ (x36.1, x36.2) x (by omega) (by omega) hma) (evl_cons (ev_tmp rfl) (evl_cons (ev_tmp rfl) evl_nil)) rfl) (fun a _ => (by first | exact invx_mk rfl | exact invx_mk (List.append_assoc _ _ _) | exact invx_all)) ?_
          intro x38 ok38
          refine bt_plain rfl rfl rfl (fun ext => w_move rfl (ev_tmp rfl)) ?_
          refine bt_plain rfl rfl rfl (fun ext => w_extract rfl (ev_tmp rfl) rfl) ?_
          refine bt_plain rfl rfl rfl (fun ext => w_extract rfl (ev_tmp rfl) rfl) ?_
          refine bt_e1 ?_
          refine eff_s0 rfl rfl rfl (opE_storeB0 7 rfl rfl (ev_tmp rfl) (ev_tmp rfl) (as_agg _) rfl Try.sizeOf27 rfl) (fun a _ => (by first | exact invx_mk rfl | exact invx_mk (List.append_assoc _ _ _) | exact invx_all)) ?_
          intro _ _
          refine bt_nil ?_
          refine sq_plain rfl rfl rfl (w_assign rfl (ev_tmp rfl)) ?_
          refine sq_nil ?_
          refine awp_seq ?_
          refine awp_seq ?_
          refine awp_own (by first | (simp only [TMove.ow, TMove.ocs, pick, List.eraseIdx_cons_zero, List.eraseIdx_cons_succ, List.set_cons_zero, List.set_cons_succ, List.cons_append, List.nil_append, List.getElem?_cons_zero, List.getElem?_cons_succ, List.append_nil, List.take_succ_cons, List.take_zero, List.drop_succ_cons, List.drop_zero]; exact rfl) | exact rfl) ?_
          refine awp_region ?_
          refine sq_plain rfl rfl rfl (w_move rfl (ev_tmp rfl)) ?_
          refine sq_nil ?_
          refine awp_cond (ev_tmp rfl) ?_ ?_
          · intro h41
            refine awp_region ?_
            refine sq_plain rfl rfl rfl (w_loadA 7 rfl (ev_tmp rfl) rfl Try.isAgg27 Try.sizeOf27 rfl) ?_
            refine sq_storeB0 1 rfl rfl rfl (ev_tmp rfl) (ev_tmp rfl) (as_agg _) rfl Try.sizeOf27 rfl ?_
            refine sq_nil ?_
            refine awp_region ?_
            refine sq_plain rfl rfl rfl (w_move rfl (ev_tmp rfl)) ?_
            refine sq_plain rfl rfl rfl (w_assign rfl (ev_tmp rfl)) ?_
            refine sq_nil ?_
            refine awp_own (by first | (simp only [TMove.ow, TMove.ocs, pick, List.eraseIdx_cons_zero, List.eraseIdx_cons_succ, List.set_cons_zero, List.set_cons_succ, List.cons_append, List.nil_append, List.getElem?_cons_zero, List.getElem?_cons_succ, List.append_nil, List.take_succ_cons, List.take_zero, List.drop_succ_cons, List.drop_zero]; exact rfl) | exact rfl) ?_
            refine awp_region ?_
            refine sq_plain rfl rfl rfl (w_move rfl (ev_tmp rfl)) ?_
            refine sq_plain rfl rfl rfl (w_move rfl (ev_tmp rfl)) ?_
            refine sq_plain rfl rfl rfl (w_bslice rfl Try.underlying46 Try.sizeOf4 Try.zeroValue4 rfl rfl rfl rfl (bp_cons (ev_tmp rfl) (as_bool _) bp_nil) rfl rfl) ?_
            refine sq_append (by' := 1) 4 rfl rfl rfl rfl Try.underlying46 Try.type4 rfl rfl rfl rfl rfl rfl (ev_tmp rfl) (ev_tmp rfl) rfl (by simp only [chunks_len, List.length_append, List.length_nil, List.length_map, List.length_take, List.length_cons, List.length_drop]; omega) ?_
            intro v47_8
            refine sq_plain rfl rfl rfl (w_assign rfl (ev_tmp rfl)) ?_
            refine sq_nil ?_
            refine awp_region ?_
            refine sq_plain rfl rfl rfl (w_addi rfl (ev_tmp rfl) ev_ci (by first | omega | ((try simp only [List.length_map, List.length_take, List.length_cons, List.length_nil, chunks_len, szR] at *); omega) | (have hc2 := hc; simp only [Bool.and_eq_true, Bool.or_eq_true, Bool.or_eq_false_iff, Bool.and_eq_false_iff, Bool.not_eq_true', Bool.not_eq_false', decide_eq_true_eq, decide_eq_false_iff_not, beq_iff_eq, bne_iff_ne, List.length_map, List.length_take] at hc2; omega))) ?_
            refine sq_plain rfl rfl rfl (w_move rfl (ev_tmp rfl)) ?_
            refine sq_nil ?_
            refine round_end3 i y v (i + 1) ((x38.1, x38.2)) (v47_8) ?_ ?_ (Le.trans (le_pick [0, 1, 1, 4, 0, 3, 3, 0] rfl) (le_dropeq 4 (by first | (rw [runS_next hx, show oneS (runS m (l.take i)).1 x = ((doS (runS m (l.take i)).1 x).1, true) from by unfold oneS stepMS; rw [if_pos h33, if_pos h41]]; simp only [h41, List.map_append, List.map_cons, List.map_nil]; rfl) | (rw [runS_next hx, show oneS (runS m (l.take i)).1 x = ((runS m (l.take i)).1, false) from by unfold oneS stepMS; first | rw [if_pos h33, if_neg (by rw [h41]; decide)] | rw [if_neg (by rw [h33]; decide)]]; (try simp only [h41]); simp only [List.map_append, List.map_cons, List.map_nil]; rfl)) ⟨rfl, rfl, rfl, rfl, rfl, rfl, rfl, rfl, trivial⟩))
            · exact ⟨by omega, runS_good hgm _⟩
            · omega
          · intro h41
            refine awp_skip ?_
            refine awp_region ?_
            refine sq_plain rfl rfl rfl (w_move rfl (ev_tmp rfl)) ?_
            refine sq_plain rfl rfl rfl (w_assign rfl (ev_tmp rfl)) ?_
            refine sq_nil ?_
            refine awp_own (by first | (simp only [TMove.ow, TMove.ocs, pick, List.eraseIdx_cons_zero, List.eraseIdx_cons_succ, List.set_cons_zero, List.set_cons_succ, List.cons_append, List.nil_append, List.getElem?_cons_zero, List.getElem?_cons_succ, List.append_nil, List.take_succ_cons, List.take_zero, List.drop_succ_cons, List.drop_zero]; exact rfl) | exact rfl) ?_
            refine awp_region ?_
            refine sq_plain rfl rfl rfl (w_move rfl (ev_tmp rfl)) ?_
            refine sq_plain rfl rfl rfl (w_move rfl (ev_tmp rfl)) ?_
            refine sq_plain rfl rfl rfl (w_bslice rfl Try.underlying46 Try.sizeOf4 Try.zeroValue4 rfl rfl rfl rfl (bp_cons (ev_tmp rfl) (as_bool _) bp_nil) rfl rfl) ?_
            refine sq_append (by' := 1) 4 rfl rfl rfl rfl Try.underlying46 Try.type4 rfl rfl rfl rfl rfl rfl (ev_tmp rfl) (ev_tmp rfl) rfl (by simp only [chunks_len, List.length_append, List.length_nil, List.length_map, List.length_take, List.length_cons, List.length_drop]; omega) ?_
            intro v47_9
            refine sq_plain rfl rfl rfl (w_assign rfl (ev_tmp rfl)) ?_
            refine sq_nil ?_
            refine awp_region ?_
            refine sq_plain rfl rfl rfl (w_addi rfl (ev_tmp rfl) ev_ci (by first | omega | ((try simp only [List.length_map, List.length_take, List.length_cons, List.length_nil, chunks_len, szR] at *); omega) | (have hc2 := hc; simp only [Bool.and_eq_true, Bool.or_eq_true, Bool.or_eq_false_iff, Bool.and_eq_false_iff, Bool.not_eq_true', Bool.not_eq_false', decide_eq_true_eq, decide_eq_false_iff_not, beq_iff_eq, bne_iff_ne, List.length_map, List.length_take] at hc2; omega))) ?_
            refine sq_plain rfl rfl rfl (w_move rfl (ev_tmp rfl)) ?_
            refine sq_nil ?_
            refine round_end3 i y v (i + 1) (y) (v47_9) ?_ ?_ (Le.trans (le_pick [0, 6, 6, 6, 0, 0, 0, 0] rfl) (le_dropeq 4 (by first | (rw [runS_next hx, show oneS (runS m (l.take i)).1 x = ((doS (runS m (l.take i)).1 x).1, true) from by unfold oneS stepMS; rw [if_pos h33, if_pos h41]]; simp only [h41, List.map_append, List.map_cons, List.map_nil]; rfl) | (rw [runS_next hx, show oneS (runS m (l.take i)).1 x = ((runS m (l.take i)).1, false) from by unfold oneS stepMS; first | rw [if_pos h33, if_neg (by rw [h41]; decide)] | rw [if_neg (by rw [h33]; decide)]]; (try simp only [h41]); simp only [List.map_append, List.map_cons, List.map_nil]; rfl)) ⟨rfl, rfl, rfl, rfl, rfl, rfl, rfl, rfl, trivial⟩))
            · exact ⟨by omega, runS_good hgm _⟩
            · omega
      · intro h33
        refine awp_skip ?_
        refine awp_own (by first | (simp only [TMove.ow, TMove.ocs, pick, List.eraseIdx_cons_zero, List.eraseIdx_cons_succ, List.set_cons_zero, List.set_cons_succ, List.cons_append, List.nil_append, List.getElem?_cons_zero, List.getElem?_cons_succ, List.append_nil, List.take_succ_cons, List.take_zero, List.drop_succ_cons, List.drop_zero]; exact rfl) | exact rfl) ?_
        refine awp_region ?_
        refine sq_plain rfl rfl rfl (w_move rfl (ev_tmp rfl)) ?_
        refine sq_plain rfl rfl rfl (w_move rfl (ev_tmp rfl)) ?_
        refine sq_plain rfl rfl rfl (w_bslice rfl Try.underlying46 Try.sizeOf4 Try.zeroValue4 rfl rfl rfl rfl (bp_cons (ev_tmp rfl) (as_bool _) bp_nil) rfl rfl) ?_
        refine sq_append (by' := 1) 4 rfl rfl rfl rfl Try.underlying46 Try.type4 rfl rfl rfl rfl rfl rfl (ev_tmp rfl) (ev_tmp rfl) rfl (by simp only [chunks_len, List.length_append, List.length_nil, List.length_map, List.length_take, List.length_cons, List.length_drop]; omega) ?_
        intro v47_10
        refine sq_plain rfl rfl rfl (w_assign rfl (ev_tmp rfl)) ?_
        refine sq_nil ?_
        refine awp_region ?_
        refine sq_plain rfl rfl rfl (w_addi rfl (ev_tmp rfl) ev_ci (by first | omega | ((try simp only [List.length_map, List.length_take, List.length_cons, List.length_nil, chunks_len, szR] at *); omega) | (have hc2 := hc; simp only [Bool.and_eq_true, Bool.or_eq_true, Bool.or_eq_false_iff, Bool.and_eq_false_iff, Bool.not_eq_true', Bool.not_eq_false', decide_eq_true_eq, decide_eq_false_iff_not, beq_iff_eq, bne_iff_ne, List.length_map, List.length_take] at hc2; omega))) ?_
        refine sq_plain rfl rfl rfl (w_move rfl (ev_tmp rfl)) ?_
        refine sq_nil ?_
        refine round_end3 i y v (i + 1) (y) (v47_10) ?_ ?_ (Le.trans (le_pick [0, 0, 0, 0, 0] rfl) (le_dropeq 1 (by first | (rw [runS_next hx, show oneS (runS m (l.take i)).1 x = ((doS (runS m (l.take i)).1 x).1, true) from by unfold oneS stepMS; rw [if_pos h33, if_pos h41]]; simp only [h41, List.map_append, List.map_cons, List.map_nil]; rfl) | (rw [runS_next hx, show oneS (runS m (l.take i)).1 x = ((runS m (l.take i)).1, false) from by unfold oneS stepMS; first | rw [if_pos h33, if_neg (by rw [h41]; decide)] | rw [if_neg (by rw [h33]; decide)]]; (try simp only [h41]); simp only [List.map_append, List.map_cons, List.map_nil]; rfl)) ⟨rfl, rfl, rfl, rfl, rfl, rfl, rfl, rfl, trivial⟩))
        · exact ⟨by omega, runS_good hgm _⟩
        · omega
    · intro h28
      have k28 := of_decide_eq_false h28; try simp only [List.length_map] at k28
      have hge : l.length ≤ i := by omega
      rw [List.take_of_length_le hge]
      refine awp_exit ?_
      refine awp_seq ?_
      refine awp_region ?_
      refine sq_plain rfl rfl rfl (w_loadA 0 rfl (ev_tmp rfl) rfl Try.isAgg27 Try.sizeOf27 rfl) ?_
      refine sq_plain rfl rfl rfl (w_move rfl (ev_tmp rfl)) ?_
      refine sq_storeB0 4 rfl rfl rfl (ev_tmp rfl) (ev_tmp rfl) (as_agg _) rfl Try.sizeOf27 rfl ?_
      refine sq_plain rfl rfl rfl (w_assign rfl (ev_tmp rfl)) ?_
      refine sq_plain rfl rfl rfl (w_assign rfl ev_cb) ?_
      refine sq_nil ?_
      refine awp_ret ?_
      first | exact retG [1, 1, 1] (y, v) (trivial) rfl (by rfl) (resN rfl (by decide) (rv_cons (rv_cell (ys := _) 4 rfl rfl Try.isAgg27 Try.sizeOf27 rfl) (rv_cons (rv_tmp' rfl (by rfl)) (rv_cons (rv_tmp' rfl (by rfl)) rv_nil)))) | exact retG [1, 1, 1] (((Value.slice none 0 0), (Value.slice none 0 0)), (Value.slice none 0 0)) (trivial) rfl (by rfl) (resN rfl (by decide) (rv_cons (rv_cell (ys := _) 4 rfl rfl Try.isAgg27 Try.sizeOf27 rfl) (rv_cons (rv_tmp' rfl (by rfl)) (rv_cons (rv_tmp' rfl (by rfl)) rv_nil))))
theorem playMoveS_spec (m : TMove) (l : List TMoveAct) (hs : m.size ≤ 1048576) (hl : sizeL TMoveAct.size l ≤ 1048576) : FSpec Try.prog 20 [AV.agg m.cs, AV.list 5 (l.map TMoveAct.cs)] (AV.tup [AV.agg (playMoveS m l).1.cs, AV.list 1 ((playMoveS m l).2.1.map fun b => [AV.bool b]), AV.bool (playMoveS m l).2.2]) :=
  fspec_of_gspec (playMoveS_own m l hs hl) fun x _ => lt_tup (lc_cons (lt_agg (lc_cons lt_refl (lc_cons lt_refl (lc_cons lt_refl (lc_cons (lt_arr (List.mem_of_getElem? (i := 0) rfl) le_refl_e) (lc_cons (lt_arr (List.mem_of_getElem? (i := 1) rfl) le_refl_e) (lc_cons lt_refl (lc_cons lt_refl lc_nil)))))))) (lc_cons (lt_arr (List.mem_of_getElem? (i := 2) rfl) le_refl_e) (lc_cons lt_refl lc_nil)))
end Go.Proofs.Ytdbmaekdejhobaa
