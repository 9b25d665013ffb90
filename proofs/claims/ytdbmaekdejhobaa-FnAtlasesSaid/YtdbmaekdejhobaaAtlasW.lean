/- Walks: atlases. -/
import Derived.Test.YtdbmaekdejhobaaAtlasM
import Derived.Test.YtdbmaekdejhobaaPlacesW
set_option linter.unusedVariables false
set_option linter.unusedSimpArgs false
set_option maxRecDepth 100000
namespace Go.Proofs.Ytdbmaekdejhobaa
open Go Go.AV Go.M
attribute [local irreducible] OpW OpA OpS AWP FSpec ESpec GSpec OpE RetOk RetOkG RvDen Le Ev GuardIs SrcIs
theorem changed_own (a b : TPlaces) (ha : a.size ≤ 4194304) (hb : b.size ≤ 4194304) (ga : goodPlaces a = true) (gb : goodPlaces b = true) : GSpec Try.prog 124 [AV.agg a.cs, AV.agg b.cs] [] (fun _ : Value => True) (fun v => [.arr v 3 1 ((changed a b).map fun x => [AV.int x])]) (fun v => AV.is v) := by
  have hca := cuts_ok ha
  have hgl : a.Groups.length ≤ 4194304 := by unfold TPlaces.size at ha; omega
  have hgb : b.Groups.length ≤ 4194304 := by unfold TPlaces.size at hb; omega
  refine gspec_of_awp Try.func124 rfl Try.ntmps124 rfl ?_
  refine awp_seq ?_
  refine awp_region ?_
  refine sq_box rfl rfl rfl rfl (ev_tmp rfl) ?_
  intro b2
  refine sq_box rfl rfl rfl rfl (ev_tmp rfl) ?_
  intro b3
  refine sq_plain rfl rfl rfl (w_assign rfl ev_cnils) ?_
  refine sq_nil ?_
  refine awp_seq ?_
  refine awp_seq ?_
  refine awp_region ?_
  refine sq_plain rfl rfl rfl (w_fldBn 1 rfl Try.underlying57 rfl Try.sizeOf52 (ev_tmp rfl) rfl) ?_
  refine sq_plain rfl rfl rfl (w_loadB1 1 rfl (ev_tmp rfl) rfl Try.isAgg52 rfl) ?_
  refine sq_plain rfl rfl rfl (w_fldBn 1 rfl Try.underlying57 rfl Try.sizeOf52 (ev_tmp rfl) rfl) ?_
  refine sq_plain rfl rfl rfl (w_loadB1 0 rfl (ev_tmp rfl) rfl Try.isAgg52 rfl) ?_
  refine sq_plain rfl rfl rfl (w_call rfl Try.call179 rfl (equalString_spec _ _) (evl_cons (ev_tmp rfl) (evl_cons (ev_tmp rfl) evl_nil))) ?_
  refine sq_plain rfl rfl rfl (w_not rfl (ev_tmp rfl)) ?_
  refine sq_nil ?_
  refine awp_cond (ev_tmp rfl) ?_ ?_
  · intro h13
    have he : changed a b = [] := by unfold changed; rw [if_pos h13]
    rw [he]
    refine awp_seq ?_
    refine awp_region ?_
    refine sq_plain rfl rfl rfl (w_assign rfl ev_cnils) ?_
    refine sq_nil ?_
    refine awp_ret ?_
    refine retG_nil 3 1 ?_
    first | exact retG [0] (Value.slice none 0 0) (trivial) rfl (by rfl) (resR rfl (rv_tmp' rfl (by rfl))) | exact retG [0] (v) (trivial) rfl (by rfl) (resR rfl (rv_tmp' rfl (by rfl)))
  · intro h13
    have he : changed a b = chg a.Groups b.Groups := by unfold changed; rw [if_neg (by rw [h13]; decide)]
    rw [he]
    have hc : a.Cuts = b.Cuts := by simpa using h13
    have hgg := good_len ga gb hc
    refine awp_skip ?_
    refine awp_seq ?_
    refine awp_region ?_
    refine sq_emptyarr rfl rfl rfl rfl Try.underlying55 Try.sizeOf3 ?_
    intro v14
    refine sq_plain rfl rfl rfl (w_assign rfl (ev_tmp rfl)) ?_
    refine sq_nil ?_
    refine awp_seq ?_
    refine awp_seq ?_
    refine awp_region ?_
    refine sq_plain rfl rfl rfl (w_fldBn 2 rfl Try.underlying57 rfl Try.sizeOf55 (ev_tmp rfl) rfl) ?_
    refine sq_plain rfl rfl rfl (w_loadB1 2 rfl (ev_tmp rfl) rfl Try.isAgg55 rfl) ?_
    refine sq_plain rfl rfl rfl (w_llen rfl Try.underlying55 (ev_tmp rfl)) ?_
    refine sq_plain rfl rfl rfl (w_move rfl ev_ci) ?_
    refine sq_nil ?_
    refine awp_block ?_
    refine awp_loop_i2 [(3, _), (4, _), (16, _), (17, _)] _ (fun (i : Nat) (v : Value) => i ≤ a.Groups.length) (fun (i : Nat) (v : Value) => [.arr v 3 1 ((chg (a.Groups.take i) (b.Groups.take i)).map fun x => [AV.int x])]) (fun (i : Nat) (v : Value) => [(5, AV.is v), (18, AV.int i)]) (fun (i : Nat) (v : Value) => a.Groups.length - i) (0) (v14) ?_ (le_eq (by rfl) ⟨rfl, rfl, rfl, rfl, rfl, rfl, trivial⟩) ?_
    · exact Nat.zero_le _
    intro i v hinv
    refine awp_seq ?_
    refine awp_region ?_
    refine sq_plain rfl rfl rfl (w_lss rfl (ev_tmp rfl) (ev_tmp rfl)) ?_
    refine sq_nil ?_
    refine awp_seq ?_
    refine awp_cond (ev_tmp rfl) ?_ ?_
    · intro h19
      have k19 := of_decide_eq_true h19; try simp only [List.length_map] at k19
      have hlt : i < a.Groups.length := by omega
      obtain ⟨x, hx⟩ := get_some hlt
      obtain ⟨y, hy⟩ := get_some (show i < b.Groups.length by omega)
      have hfl := chg_len (a.Groups.take i) (b.Groups.take i)
      have hfk : (a.Groups.take i).length ≤ 4194304 := by simp only [List.length_take]; omega
      refine awp_skip ?_
      refine awp_seq ?_
      refine awp_block ?_
      refine awp_seq ?_
      refine awp_region ?_
      refine sq_plain rfl rfl rfl (w_move rfl (ev_tmp rfl)) ?_
      refine sq_plain rfl rfl rfl (w_idxm rfl Try.underlying55 Try.sizeOf3 (ev_tmp rfl) (ev_tmp rfl) hx (by first | omega | ((try simp only [List.length_map, List.length_take, List.length_cons, List.length_nil, chunks_len, szR] at *); omega) | (have hc2 := hc; simp only [Bool.and_eq_true, Bool.or_eq_true, Bool.or_eq_false_iff, Bool.and_eq_false_iff, Bool.not_eq_true', Bool.not_eq_false', decide_eq_true_eq, decide_eq_false_iff_not, beq_iff_eq, bne_iff_ne, List.length_map, List.length_take] at hc2; omega))) ?_
      refine sq_plain rfl rfl rfl (w_loadE1 rfl (ev_tmp rfl) Try.isAgg3 rfl) ?_
      refine sq_plain rfl rfl rfl (w_assign rfl (ev_tmp rfl)) ?_
      refine sq_plain rfl rfl rfl (w_assign rfl (ev_tmp rfl)) ?_
      refine sq_nil ?_
      refine awp_seq ?_
      refine awp_region ?_
      refine sq_plain rfl rfl rfl (w_move rfl (ev_tmp rfl)) ?_
      refine sq_plain rfl rfl rfl (w_fldBn 2 rfl Try.underlying57 rfl Try.sizeOf55 (ev_tmp rfl) rfl) ?_
      refine sq_plain rfl rfl rfl (w_loadB1 1 rfl (ev_tmp rfl) rfl Try.isAgg55 rfl) ?_
      refine sq_plain rfl rfl rfl (w_move rfl (ev_tmp rfl)) ?_
      refine sq_plain rfl rfl rfl (w_idxm rfl Try.underlying55 Try.sizeOf3 (ev_tmp rfl) (ev_tmp rfl) hy (by first | omega | ((try simp only [List.length_map, List.length_take, List.length_cons, List.length_nil, chunks_len, szR] at *); omega) | (have hc2 := hc; simp only [Bool.and_eq_true, Bool.or_eq_true, Bool.or_eq_false_iff, Bool.and_eq_false_iff, Bool.not_eq_true', Bool.not_eq_false', decide_eq_true_eq, decide_eq_false_iff_not, beq_iff_eq, bne_iff_ne, List.length_map, List.length_take] at hc2; omega))) ?_
      refine sq_plain rfl rfl rfl (w_loadE1 rfl (ev_tmp rfl) Try.isAgg3 rfl) ?_
      refine sq_plain rfl rfl rfl (w_neq rfl (ev_tmp rfl) (ev_tmp rfl)) ?_
      refine sq_nil ?_
      refine awp_cond (ev_tmp rfl) ?_ ?_
      · intro h29
        have k29 := ne_of_bne h29; try simp only [List.length_map] at k29
        refine awp_region ?_
        refine sq_plain rfl rfl rfl (w_move rfl (ev_tmp rfl)) ?_
        refine sq_plain rfl rfl rfl (w_move rfl (ev_tmp rfl)) ?_
        refine sq_plain rfl rfl rfl (w_fldBn 2 rfl Try.underlying57 rfl Try.sizeOf55 (ev_tmp rfl) rfl) ?_
        refine sq_plain rfl rfl rfl (w_loadB1 1 rfl (ev_tmp rfl) rfl Try.isAgg55 rfl) ?_
        refine sq_plain rfl rfl rfl (w_move rfl (ev_tmp rfl)) ?_
        refine sq_plain rfl rfl rfl (w_idxm rfl Try.underlying55 Try.sizeOf3 (ev_tmp rfl) (ev_tmp rfl) hy (by first | omega | ((try simp only [List.length_map, List.length_take, List.length_cons, List.length_nil, chunks_len, szR] at *); omega) | (have hc2 := hc; simp only [Bool.and_eq_true, Bool.or_eq_true, Bool.or_eq_false_iff, Bool.and_eq_false_iff, Bool.not_eq_true', Bool.not_eq_false', decide_eq_true_eq, decide_eq_false_iff_not, beq_iff_eq, bne_iff_ne, List.length_map, List.length_take] at hc2; omega))) ?_
        refine sq_plain rfl rfl rfl (w_loadE1 rfl (ev_tmp rfl) Try.isAgg3 rfl) ?_
        refine sq_plain rfl rfl rfl (w_bslice rfl Try.underlying55 Try.sizeOf3 Try.zeroValue3 rfl rfl rfl rfl (bp_cons (ev_tmp rfl) (as_ik _ _) (bp_cons (ev_tmp rfl) (as_ik _ _) bp_nil)) rfl rfl) ?_
        refine sq_append (by' := 8) 0 rfl rfl rfl rfl Try.underlying55 Try.type3 rfl rfl rfl rfl rfl rfl (ev_tmp rfl) (ev_tmp rfl) rfl (by first | omega | ((try simp only [List.length_map, List.length_take, List.length_cons, List.length_nil, chunks_len, szR] at *); omega) | (have hc2 := hc; simp only [Bool.and_eq_true, Bool.or_eq_true, Bool.or_eq_false_iff, Bool.and_eq_false_iff, Bool.not_eq_true', Bool.not_eq_false', decide_eq_true_eq, decide_eq_false_iff_not, beq_iff_eq, bne_iff_ne, List.length_map, List.length_take] at hc2; omega)) ?_
        intro v38_2
        refine sq_plain rfl rfl rfl (w_assign rfl (ev_tmp rfl)) ?_
        refine sq_nil ?_
        refine awp_region ?_
        refine sq_plain rfl rfl rfl (w_addi rfl (ev_tmp rfl) ev_ci (by first | omega | ((try simp only [List.length_map, List.length_take, List.length_cons, List.length_nil, chunks_len, szR] at *); omega) | (have hc2 := hc; simp only [Bool.and_eq_true, Bool.or_eq_true, Bool.or_eq_false_iff, Bool.and_eq_false_iff, Bool.not_eq_true', Bool.not_eq_false', decide_eq_true_eq, decide_eq_false_iff_not, beq_iff_eq, bne_iff_ne, List.length_map, List.length_take] at hc2; omega))) ?_
        refine sq_plain rfl rfl rfl (w_move rfl (ev_tmp rfl)) ?_
        refine sq_nil ?_
        refine round_end2 i v (i + 1) (v38_2) ?_ ?_ (le_eq (by first | exact congrArg (fun z => Own.arr _ _ _ z :: _) (chg_keep hx hy h29) | exact congrArg (fun z => Own.arr _ _ _ z :: _) (chg_skip hx hy h29)) ⟨rfl, rfl, rfl, rfl, rfl, rfl, trivial⟩)
        · omega
        · omega
      · intro h29
        have k29 := eq_of_bne_false h29; try simp only [List.length_map] at k29
        refine awp_skip ?_
        refine awp_region ?_
        refine sq_plain rfl rfl rfl (w_addi rfl (ev_tmp rfl) ev_ci (by first | omega | ((try simp only [List.length_map, List.length_take, List.length_cons, List.length_nil, chunks_len, szR] at *); omega) | (have hc2 := hc; simp only [Bool.and_eq_true, Bool.or_eq_true, Bool.or_eq_false_iff, Bool.and_eq_false_iff, Bool.not_eq_true', Bool.not_eq_false', decide_eq_true_eq, decide_eq_false_iff_not, beq_iff_eq, bne_iff_ne, List.length_map, List.length_take] at hc2; omega))) ?_
        refine sq_plain rfl rfl rfl (w_move rfl (ev_tmp rfl)) ?_
        refine sq_nil ?_
        refine round_end2 i v (i + 1) (v) ?_ ?_ (le_eq (by first | exact congrArg (fun z => Own.arr _ _ _ z :: _) (chg_keep hx hy h29) | exact congrArg (fun z => Own.arr _ _ _ z :: _) (chg_skip hx hy h29)) ⟨rfl, rfl, rfl, rfl, rfl, rfl, trivial⟩)
        · omega
        · omega
    · intro h19
      have k19 := of_decide_eq_false h19; try simp only [List.length_map] at k19
      have hge : a.Groups.length ≤ i := by omega
      rw [List.take_of_length_le hge, List.take_of_length_le (by omega)]
      refine awp_exit ?_
      refine awp_seq ?_
      refine awp_region ?_
      refine sq_plain rfl rfl rfl (w_move rfl (ev_tmp rfl)) ?_
      refine sq_plain rfl rfl rfl (w_assign rfl (ev_tmp rfl)) ?_
      refine sq_nil ?_
      refine awp_ret ?_
      first | exact retG [0] v14 (trivial) rfl (by rfl) (resR rfl (rv_tmp' rfl (by rfl))) | exact retG [0] (v) (trivial) rfl (by rfl) (resR rfl (rv_tmp' rfl (by rfl)))
theorem changed_spec (a b : TPlaces) (ha : a.size ≤ 4194304) (hb : b.size ≤ 4194304) (ga : goodPlaces a = true) (gb : goodPlaces b = true) : FSpec Try.prog 124 [AV.agg a.cs, AV.agg b.cs] (ints (changed a b)) :=
  fspec_of_gspec (changed_own a b ha hb ga gb) fun x _ => lt_arr (List.mem_singleton.2 rfl) le_refl_e
theorem gave_spec (a b : TPlaces) (ha : a.size ≤ 4194304) (hl : a.Groups.length = b.Groups.length) : FSpec Try.prog 181 [AV.agg a.cs, AV.agg b.cs] (AV.int (gave a b)) := by
  have hgl : a.Groups.length ≤ 4194304 := by unfold TPlaces.size at ha; omega
  refine spec_of_awp Try.func181 rfl Try.ntmps181 rfl ?_
  refine awp_seq ?_
  refine awp_region ?_
  refine sq_box rfl rfl rfl rfl (ev_tmp rfl) ?_
  intro b2
  refine sq_box rfl rfl rfl rfl (ev_tmp rfl) ?_
  intro b3
  refine sq_plain rfl rfl rfl (w_assign rfl ev_ci) ?_
  refine sq_nil ?_
  refine awp_seq ?_
  refine awp_region ?_
  refine sq_plain rfl rfl rfl (w_assign rfl ev_ci) ?_
  refine sq_nil ?_
  refine awp_seq ?_
  refine awp_seq ?_
  refine awp_region ?_
  refine sq_plain rfl rfl rfl (w_fldBn 2 rfl Try.underlying57 rfl Try.sizeOf55 (ev_tmp rfl) rfl) ?_
  refine sq_plain rfl rfl rfl (w_loadB1 1 rfl (ev_tmp rfl) rfl Try.isAgg55 rfl) ?_
  refine sq_plain rfl rfl rfl (w_llen rfl Try.underlying55 (ev_tmp rfl)) ?_
  refine sq_plain rfl rfl rfl (w_move rfl ev_ci) ?_
  refine sq_nil ?_
  refine awp_block ?_
  refine awp_loop_i2 [(2, _), (3, _), (4, _), (9, _)] _ (fun (i : Nat) (t : Int) => i ≤ a.Groups.length ∧ gave a b = gv (a.Groups.drop i) (b.Groups.drop i) i t) (fun (i : Nat) (t : Int) => []) (fun (i : Nat) (t : Int) => [(5, AV.int t), (10, AV.int i)]) (fun (i : Nat) (t : Int) => a.Groups.length - i) (0) (-1) ?_ (le_env ⟨rfl, rfl, rfl, rfl, rfl, rfl, trivial⟩) ?_
  · exact ⟨Nat.zero_le _, rfl⟩
  intro i t hinv
  refine awp_seq ?_
  refine awp_region ?_
  refine sq_plain rfl rfl rfl (w_lss rfl (ev_tmp rfl) (ev_tmp rfl)) ?_
  refine sq_nil ?_
  refine awp_seq ?_
  refine awp_cond (ev_tmp rfl) ?_ ?_
  · intro h11
    have k11 := of_decide_eq_true h11; try simp only [List.length_map] at k11
    have hlt : i < a.Groups.length := by omega
    obtain ⟨x, hx⟩ := get_some hlt
    obtain ⟨y, hy⟩ := get_some (show i < b.Groups.length by omega)
    refine awp_skip ?_
    refine awp_seq ?_
    refine awp_block ?_
    refine awp_seq ?_
    refine awp_region ?_
    refine sq_plain rfl rfl rfl (w_move rfl (ev_tmp rfl)) ?_
    refine sq_plain rfl rfl rfl (w_assign rfl (ev_tmp rfl)) ?_
    refine sq_nil ?_
    refine awp_seq ?_
    refine awp_region_any (by kernel_rfl) (by kernel_rfl) rfl ?_
    refine ch_plain rfl rfl (w_fldBn 2 rfl Try.underlying57 rfl Try.sizeOf55 (ev_tmp rfl) rfl) ?_
    refine ch_plain rfl rfl (w_loadB1 1 rfl (ev_tmp rfl) rfl Try.isAgg55 rfl) ?_
    refine ch_plain rfl rfl (w_move rfl (ev_tmp rfl)) ?_
    refine ch_plain rfl rfl (w_idxm rfl Try.underlying55 Try.sizeOf3 (ev_tmp rfl) (ev_tmp rfl) hx (by first | omega | ((try simp only [List.length_map, List.length_take, List.length_cons, List.length_nil, chunks_len, szR] at *); omega) | (have hc2 := hc; simp only [Bool.and_eq_true, Bool.or_eq_true, Bool.or_eq_false_iff, Bool.and_eq_false_iff, Bool.not_eq_true', Bool.not_eq_false', decide_eq_true_eq, decide_eq_false_iff_not, beq_iff_eq, bne_iff_ne, List.length_map, List.length_take] at hc2; omega))) ?_
    refine ch_plain rfl rfl (w_loadE1 rfl (ev_tmp rfl) Try.isAgg3 rfl) ?_
    refine ch_plain rfl rfl (w_fldBn 2 rfl Try.underlying57 rfl Try.sizeOf55 (ev_tmp rfl) rfl) ?_
    refine ch_plain rfl rfl (w_loadB1 0 rfl (ev_tmp rfl) rfl Try.isAgg55 rfl) ?_
    refine ch_plain rfl rfl (w_move rfl (ev_tmp rfl)) ?_
    refine ch_plain rfl rfl (w_idxm rfl Try.underlying55 Try.sizeOf3 (ev_tmp rfl) (ev_tmp rfl) hy (by first | omega | ((try simp only [List.length_map, List.length_take, List.length_cons, List.length_nil, chunks_len, szR] at *); omega) | (have hc2 := hc; simp only [Bool.and_eq_true, Bool.or_eq_true, Bool.or_eq_false_iff, Bool.and_eq_false_iff, Bool.not_eq_true', Bool.not_eq_false', decide_eq_true_eq, decide_eq_false_iff_not, beq_iff_eq, bne_iff_ne, List.length_map, List.length_take] at hc2; omega))) ?_
    refine ch_plain rfl rfl (w_loadE1 rfl (ev_tmp rfl) Try.isAgg3 rfl) ?_
    refine ch_plain rfl rfl (w_neq rfl (ev_tmp rfl) (ev_tmp rfl)) ?_
    refine ch_nil ?_
    refine awp_cond (ev_tmp rfl) ?_ ?_
    · intro h23
      have k23 := ne_of_bne h23; try simp only [List.length_map] at k23
      refine awp_region ?_
      refine sq_plain rfl rfl rfl (w_move rfl (ev_tmp rfl)) ?_
      refine sq_plain rfl rfl rfl (w_assign rfl (ev_tmp rfl)) ?_
      refine sq_nil ?_
      refine awp_region ?_
      refine sq_plain rfl rfl rfl (w_addi rfl (ev_tmp rfl) ev_ci (by first | omega | ((try simp only [List.length_map, List.length_take, List.length_cons, List.length_nil, chunks_len, szR] at *); omega) | (have hc2 := hc; simp only [Bool.and_eq_true, Bool.or_eq_true, Bool.or_eq_false_iff, Bool.and_eq_false_iff, Bool.not_eq_true', Bool.not_eq_false', decide_eq_true_eq, decide_eq_false_iff_not, beq_iff_eq, bne_iff_ne, List.length_map, List.length_take] at hc2; omega))) ?_
      refine sq_plain rfl rfl rfl (w_move rfl (ev_tmp rfl)) ?_
      refine sq_nil ?_
      refine round_end2 i t (i + 1) (i) ?_ ?_ (le_env ⟨rfl, rfl, rfl, rfl, rfl, rfl, trivial⟩)
      · first | exact ⟨by omega, by rw [hinv.2, gv_step hx hy, if_pos h23]⟩ | exact ⟨by omega, by rw [hinv.2, gv_step hx hy, if_neg (by rw [h23]; decide)]⟩
      · omega
    · intro h23
      have k23 := eq_of_bne_false h23; try simp only [List.length_map] at k23
      refine awp_skip ?_
      refine awp_region ?_
      refine sq_plain rfl rfl rfl (w_addi rfl (ev_tmp rfl) ev_ci (by first | omega | ((try simp only [List.length_map, List.length_take, List.length_cons, List.length_nil, chunks_len, szR] at *); omega) | (have hc2 := hc; simp only [Bool.and_eq_true, Bool.or_eq_true, Bool.or_eq_false_iff, Bool.and_eq_false_iff, Bool.not_eq_true', Bool.not_eq_false', decide_eq_true_eq, decide_eq_false_iff_not, beq_iff_eq, bne_iff_ne, List.length_map, List.length_take] at hc2; omega))) ?_
      refine sq_plain rfl rfl rfl (w_move rfl (ev_tmp rfl)) ?_
      refine sq_nil ?_
      refine round_end2 i t (i + 1) (t) ?_ ?_ (le_env ⟨rfl, rfl, rfl, rfl, rfl, rfl, trivial⟩)
      · first | exact ⟨by omega, by rw [hinv.2, gv_step hx hy, if_pos h23]⟩ | exact ⟨by omega, by rw [hinv.2, gv_step hx hy, if_neg (by rw [h23]; decide)]⟩
      · omega
  · intro h11
    have k11 := of_decide_eq_false h11; try simp only [List.length_map] at k11
    have hge : a.Groups.length ≤ i := by omega
    refine awp_exit ?_
    refine awp_seq ?_
    refine awp_region ?_
    refine sq_plain rfl rfl rfl (w_move rfl (ev_tmp rfl)) ?_
    refine sq_plain rfl rfl rfl (w_assign rfl (ev_tmp rfl)) ?_
    refine sq_nil ?_
    refine awp_ret ?_
    exact retR rfl (rv_tmp' rfl (by exact congrArg AV.int (by rw [hinv.2, List.drop_eq_nil_of_le hge]; rfl)))
theorem concerned_spec (a b : TPlaces) (ha : a.size ≤ 4194304) (hb : b.size ≤ 4194304) : FSpec Try.prog 127 [AV.agg a.cs, AV.agg b.cs] (ints (concerned a b)) := by
  have hgl : a.Groups.length ≤ 4194304 := by unfold TPlaces.size at ha; omega
  have hgb : b.Groups.length ≤ 4194304 := by unfold TPlaces.size at hb; omega
  refine spec_of_awp Try.func127 rfl Try.ntmps127 rfl ?_
  refine awp_seq ?_
  refine awp_region ?_
  refine sq_box rfl rfl rfl rfl (ev_tmp rfl) ?_
  intro b2
  refine sq_box rfl rfl rfl rfl (ev_tmp rfl) ?_
  intro b3
  refine sq_plain rfl rfl rfl (w_assign rfl (ev_cnil (sz := 1))) ?_
  refine sq_nil ?_
  refine awp_seq ?_
  refine awp_seq ?_
  refine awp_region ?_
  refine sq_plain rfl rfl rfl (w_fldBn 2 rfl Try.underlying57 rfl Try.sizeOf55 (ev_tmp rfl) rfl) ?_
  refine sq_plain rfl rfl rfl (w_loadB1 1 rfl (ev_tmp rfl) rfl Try.isAgg55 rfl) ?_
  refine sq_plain rfl rfl rfl (w_llen rfl Try.underlying55 (ev_tmp rfl)) ?_
  refine sq_plain rfl rfl rfl (w_fldBn 2 rfl Try.underlying57 rfl Try.sizeOf55 (ev_tmp rfl) rfl) ?_
  refine sq_plain rfl rfl rfl (w_loadB1 0 rfl (ev_tmp rfl) rfl Try.isAgg55 rfl) ?_
  refine sq_plain rfl rfl rfl (w_llen rfl Try.underlying55 (ev_tmp rfl)) ?_
  refine sq_plain rfl rfl rfl (w_neq rfl (ev_tmp rfl) (ev_tmp rfl)) ?_
  refine sq_nil ?_
  refine awp_cond (ev_tmp rfl) ?_ ?_
  · intro h12
    have k12 := ne_of_bne h12; try simp only [List.length_map] at k12
    have he : concerned a b = [] := by unfold concerned; simp only [List.length_map] at h12; rw [if_pos h12]
    rw [he]
    refine awp_seq ?_
    refine awp_region ?_
    refine sq_plain rfl rfl rfl (w_assign rfl (ev_cnil (sz := 1))) ?_
    refine sq_nil ?_
    refine awp_ret ?_
    exact retR rfl (rv_tmp' rfl (by rfl))
  · intro h12
    have k12 := eq_of_bne_false h12; try simp only [List.length_map] at k12
    have hlen : a.Groups.length = b.Groups.length := by omega
    refine awp_skip ?_
    refine awp_seq ?_
    refine awp_region ?_
    refine sq_plain rfl rfl rfl (w_loadA 1 rfl (ev_tmp rfl) rfl Try.isAgg57 Try.sizeOf57 rfl) ?_
    refine sq_plain rfl rfl rfl (w_loadA 0 rfl (ev_tmp rfl) rfl Try.isAgg57 Try.sizeOf57 rfl) ?_
    refine sq_plain rfl rfl rfl (w_call rfl Try.call181 rfl (gave_spec _ _ (by first | assumption | omega) (by assumption)) (evl_cons (ev_tmp rfl) (evl_cons (ev_tmp rfl) evl_nil))) ?_
    refine sq_plain rfl rfl rfl (w_assign rfl (ev_tmp rfl)) ?_
    refine sq_nil ?_
    refine awp_seq ?_
    refine awp_seq ?_
    refine awp_region ?_
    refine sq_plain rfl rfl rfl (w_move rfl (ev_tmp rfl)) ?_
    refine sq_plain rfl rfl rfl (w_lss rfl (ev_tmp rfl) ev_ci) ?_
    refine sq_nil ?_
    refine awp_cond (ev_tmp rfl) ?_ ?_
    · intro h17
      have k17 := of_decide_eq_true h17; try simp only [List.length_map] at k17
      have he : concerned a b = [] := by unfold concerned; simp only [List.length_map] at h12; rw [if_neg (by rw [h12]; decide), if_pos h17]
      rw [he]
      refine awp_seq ?_
      refine awp_region ?_
      refine sq_plain rfl rfl rfl (w_assign rfl (ev_cnil (sz := 1))) ?_
      refine sq_nil ?_
      refine awp_ret ?_
      exact retR rfl (rv_tmp' rfl (by rfl))
    · intro h17
      have k17 := of_decide_eq_false h17; try simp only [List.length_map] at k17
      have hlt := gv_lt (a := a.Groups) (b := b.Groups) (j := 0) (t := -1) (by omega)
      have hgv : gv a.Groups b.Groups 0 (-1) = gave a b := rfl
      rw [hgv] at hlt
      obtain ⟨x, hx⟩ := get_some (show (gave a b).toNat < a.Groups.length by omega)
      obtain ⟨y, hy⟩ := get_some (show (gave a b).toNat < b.Groups.length by omega)
      have he : concerned a b = [x, y] := by unfold concerned gAt; simp only [List.length_map] at h12; rw [if_neg (by rw [h12]; decide), if_neg (by rw [h17]; decide), List.getD_eq_getElem?_getD, hx, List.getD_eq_getElem?_getD, hy]; rfl
      rw [he]
      refine awp_skip ?_
      refine awp_seq ?_
      refine awp_region_any (by kernel_rfl) (by kernel_rfl) rfl ?_
      refine ch_plain rfl rfl (w_fldBn 2 rfl Try.underlying57 rfl Try.sizeOf55 (ev_tmp rfl) rfl) ?_
      refine ch_plain rfl rfl (w_loadB1 1 rfl (ev_tmp rfl) rfl Try.isAgg55 rfl) ?_
      refine ch_plain rfl rfl (w_move rfl (ev_tmp rfl)) ?_
      refine ch_plain rfl rfl (w_idx rfl Try.underlying55 Try.sizeOf3 (ev_tmp rfl) (ev_tmp rfl) (by omega) (by rw [List.getElem?_map, hx]; rfl)) ?_
      refine ch_plain rfl rfl (w_loadE1 rfl (ev_tmp rfl) Try.isAgg3 rfl) ?_
      refine ch_plain rfl rfl (w_fldBn 2 rfl Try.underlying57 rfl Try.sizeOf55 (ev_tmp rfl) rfl) ?_
      refine ch_plain rfl rfl (w_loadB1 0 rfl (ev_tmp rfl) rfl Try.isAgg55 rfl) ?_
      refine ch_plain rfl rfl (w_move rfl (ev_tmp rfl)) ?_
      refine ch_plain rfl rfl (w_idx rfl Try.underlying55 Try.sizeOf3 (ev_tmp rfl) (ev_tmp rfl) (by omega) (by rw [List.getElem?_map, hy]; rfl)) ?_
      refine ch_plain rfl rfl (w_loadE1 rfl (ev_tmp rfl) Try.isAgg3 rfl) ?_
      refine ch_plain rfl rfl (w_bslice rfl Try.underlying55 Try.sizeOf3 Try.zeroValue3 rfl rfl rfl rfl (bp_cons (ev_tmp rfl) (as_ik _ _) (bp_cons (ev_tmp rfl) (as_ik _ _) bp_nil)) rfl rfl) ?_
      refine ch_plain rfl rfl (w_assign rfl (ev_tmp rfl)) ?_
      refine ch_nil ?_
      refine awp_ret ?_
      exact retR rfl (rv_tmp' rfl (by rfl))
theorem owner_spec (p : TPlaces) (key : Str) (hs : p.size ≤ 4194304) (hg : goodPlaces p = true) : FSpec Try.prog 118 [AV.agg p.cs, AV.str key] (AV.int (gAt p (partOf p.Cuts key))) := by
  have h4 := (good_facts hg).2.2.2.1
  have hle := partOf_le p.Cuts key
  obtain ⟨x, hx⟩ := get_some (show partOf p.Cuts key < p.Groups.length by omega)
  refine spec_of_awp Try.func118 rfl Try.ntmps118 rfl ?_
  refine awp_seq ?_
  refine awp_region ?_
  refine sq_box rfl rfl rfl rfl (ev_tmp rfl) ?_
  intro b2
  refine sq_plain rfl rfl rfl (w_assign rfl ev_ci) ?_
  refine sq_nil ?_
  refine awp_seq ?_
  refine awp_region_any (by kernel_rfl) (by kernel_rfl) rfl ?_
  refine ch_plain rfl rfl (w_fldBn 2 rfl Try.underlying57 rfl Try.sizeOf55 (ev_tmp rfl) rfl) ?_
  refine ch_plain rfl rfl (w_loadB1 0 rfl (ev_tmp rfl) rfl Try.isAgg55 rfl) ?_
  refine ch_plain rfl rfl (w_fldBn 1 rfl Try.underlying57 rfl Try.sizeOf52 (ev_tmp rfl) rfl) ?_
  refine ch_plain rfl rfl (w_loadB1 0 rfl (ev_tmp rfl) rfl Try.isAgg52 rfl) ?_
  refine ch_plain rfl rfl (w_move rfl (ev_tmp rfl)) ?_
  refine ch_plain rfl rfl (w_call rfl Try.call96 rfl (partOf_spec _ _) (evl_cons (ev_tmp rfl) (evl_cons (ev_tmp rfl) evl_nil))) ?_
  refine ch_plain rfl rfl (w_idxm rfl Try.underlying55 Try.sizeOf3 (ev_tmp rfl) (ev_tmp rfl) hx (by first | omega | ((try simp only [List.length_map, List.length_take, List.length_cons, List.length_nil, chunks_len, szR] at *); omega) | (have hc2 := hc; simp only [Bool.and_eq_true, Bool.or_eq_true, Bool.or_eq_false_iff, Bool.and_eq_false_iff, Bool.not_eq_true', Bool.not_eq_false', decide_eq_true_eq, decide_eq_false_iff_not, beq_iff_eq, bne_iff_ne, List.length_map, List.length_take] at hc2; omega))) ?_
  refine ch_plain rfl rfl (w_loadE1 rfl (ev_tmp rfl) Try.isAgg3 rfl) ?_
  refine ch_plain rfl rfl (w_assign rfl (ev_tmp rfl)) ?_
  refine ch_nil ?_
  refine awp_ret ?_
  exact retR rfl (rv_tmp' rfl (by exact congrArg AV.int (by unfold gAt; rw [Int.toNat_natCast, List.getD_eq_getElem?_getD, hx]; rfl)))
theorem l20Group_spec (p : TPlaces) (key : Str) (hs : p.size ≤ 4194304) (hg : goodPlaces p = true) : FSpec Try.prog 121 [AV.agg p.cs, AV.str key] (AV.int (gAt p (rangeS p.Cuts key))) := by
  have h4 := (good_facts hg).2.2.2.1
  have hle := rangeS_le p.Cuts key
  have hc : p.Cuts.length ≤ 4194304 := Nat.le_trans sizeL_len (show sizeL (fun x : Str => x.length) p.Cuts ≤ 4194304 by unfold TPlaces.size at hs; omega)
  obtain ⟨x, hx⟩ := get_some (show rangeS p.Cuts key < p.Groups.length by omega)
  refine spec_of_awp Try.func121 rfl Try.ntmps121 rfl ?_
  refine awp_seq ?_
  refine awp_region ?_
  refine sq_box rfl rfl rfl rfl (ev_tmp rfl) ?_
  intro b2
  refine sq_plain rfl rfl rfl (w_assign rfl ev_ci) ?_
  refine sq_nil ?_
  refine awp_seq ?_
  refine awp_region_any (by kernel_rfl) (by kernel_rfl) rfl ?_
  refine ch_plain rfl rfl (w_fldBn 2 rfl Try.underlying57 rfl Try.sizeOf55 (ev_tmp rfl) rfl) ?_
  refine ch_plain rfl rfl (w_loadB1 0 rfl (ev_tmp rfl) rfl Try.isAgg55 rfl) ?_
  refine ch_plain rfl rfl (w_loadA 0 rfl (ev_tmp rfl) rfl Try.isAgg57 Try.sizeOf57 rfl) ?_
  refine ch_plain rfl rfl (w_move rfl (ev_tmp rfl)) ?_
  refine ch_plain rfl rfl (w_call rfl Try.call101 rfl (l20Range_spec p key hc) (evl_cons (ev_tmp rfl) (evl_cons (ev_tmp rfl) evl_nil))) ?_
  refine ch_plain rfl rfl (w_idxm rfl Try.underlying55 Try.sizeOf3 (ev_tmp rfl) (ev_tmp rfl) hx (by first | omega | ((try simp only [List.length_map, List.length_take, List.length_cons, List.length_nil, chunks_len, szR] at *); omega) | (have hc2 := hc; simp only [Bool.and_eq_true, Bool.or_eq_true, Bool.or_eq_false_iff, Bool.and_eq_false_iff, Bool.not_eq_true', Bool.not_eq_false', decide_eq_true_eq, decide_eq_false_iff_not, beq_iff_eq, bne_iff_ne, List.length_map, List.length_take] at hc2; omega))) ?_
  refine ch_plain rfl rfl (w_loadE1 rfl (ev_tmp rfl) Try.isAgg3 rfl) ?_
  refine ch_plain rfl rfl (w_assign rfl (ev_tmp rfl)) ?_
  refine ch_nil ?_
  refine awp_ret ?_
  exact retR rfl (rv_tmp' rfl (by exact congrArg AV.int (by unfold gAt; rw [Int.toNat_natCast, List.getD_eq_getElem?_getD, hx]; rfl)))
theorem goodAtlas1_spec (a : TAtlas) (n : Int) (hl : a.Maps.length ≤ 4194304) : FSpec Try.prog 122 [AV.int n, AV.eptr a.cs] (AV.bool (!within n 0 ((a.Maps.length : Int) - 1))) := by
  refine spec_of_awp Try.func122 rfl Try.ntmps122 rfl ?_
  refine awp_seq ?_
  refine awp_region ?_
  refine sq_plain rfl rfl rfl (w_assign rfl ev_cb) ?_
  refine sq_nil ?_
  refine awp_seq ?_
  refine awp_region ?_
  refine sq_plain rfl rfl rfl (w_move rfl (ev_tmp rfl)) ?_
  refine sq_plain rfl rfl rfl (w_fldE rfl Try.underlying74 rfl Try.sizeOf72 (ev_tmp rfl) rfl) ?_
  refine sq_plain rfl rfl rfl (w_loadE1 rfl (ev_tmp rfl) Try.isAgg72 rfl) ?_
  refine sq_plain rfl rfl rfl (w_llen rfl Try.underlying72 (ev_tmp rfl)) ?_
  refine sq_plain rfl rfl rfl (w_subi rfl (ev_tmp rfl) ev_ci (by first | omega | ((try simp only [List.length_map, List.length_take, List.length_cons, List.length_nil, chunks_len, szR] at *); omega) | (have hc2 := hc; simp only [Bool.and_eq_true, Bool.or_eq_true, Bool.or_eq_false_iff, Bool.and_eq_false_iff, Bool.not_eq_true', Bool.not_eq_false', decide_eq_true_eq, decide_eq_false_iff_not, beq_iff_eq, bne_iff_ne, List.length_map, List.length_take] at hc2; omega))) ?_
  refine sq_plain rfl rfl rfl (w_call rfl Try.call113 rfl (within_spec _ _ _) (evl_cons (ev_tmp rfl) (evl_cons ev_ci (evl_cons (ev_tmp rfl) evl_nil)))) ?_
  refine sq_plain rfl rfl rfl (w_not rfl (ev_tmp rfl)) ?_
  refine sq_plain rfl rfl rfl (w_assign rfl (ev_tmp rfl)) ?_
  refine sq_nil ?_
  refine awp_ret ?_
  exact retR rfl (rv_tmp' rfl (by first | rfl | (refine congrArg AV.bool ?_; simp_all; done)))
theorem goodAtlas2_spec (a : TAtlas) (i : Nat) (g : Int) (h : 0 ≤ g ∧ g < 4) (hk : a.Knows.length = 4) : FSpec Try.prog 125 [AV.int g, AV.eptr a.cs, AV.eptr [AV.int i]] (AV.bool (late a i g)) := by
  obtain ⟨x, hx⟩ := get_some (show g.toNat < a.Knows.length by omega)
  refine spec_of_awp Try.func125 rfl Try.ntmps125 rfl ?_
  refine awp_seq ?_
  refine awp_region ?_
  refine sq_plain rfl rfl rfl (w_assign rfl ev_cb) ?_
  refine sq_nil ?_
  refine awp_seq ?_
  refine awp_region_any (by kernel_rfl) (by kernel_rfl) rfl ?_
  refine ch_plain rfl rfl (w_fldE rfl Try.underlying74 rfl Try.sizeOf55 (ev_tmp rfl) rfl) ?_
  refine ch_plain rfl rfl (w_loadE1 rfl (ev_tmp rfl) Try.isAgg55 rfl) ?_
  refine ch_plain rfl rfl (w_move rfl (ev_tmp rfl)) ?_
  refine ch_plain rfl rfl (w_idx rfl Try.underlying55 Try.sizeOf3 (ev_tmp rfl) (ev_tmp rfl) (by omega) (by rw [List.getElem?_map, hx]; rfl)) ?_
  refine ch_plain rfl rfl (w_loadE1 rfl (ev_tmp rfl) Try.isAgg3 rfl) ?_
  refine ch_plain rfl rfl (w_loadE1 rfl (ev_tmp rfl) Try.isAgg3 rfl) ?_
  refine ch_plain rfl rfl (w_lss rfl (ev_tmp rfl) (ev_tmp rfl)) ?_
  refine ch_plain rfl rfl (w_assign rfl (ev_tmp rfl)) ?_
  refine ch_nil ?_
  refine awp_ret ?_
  exact retR rfl (rv_tmp' rfl (by exact congrArg AV.bool (by unfold late; rw [List.getD_eq_getElem?_getD, hx]; rfl)))
theorem goodAtlas_spec (a : TAtlas) (hs : a.size ≤ 1048576) : FSpec Try.prog 44 [AV.agg a.cs] (AV.bool (goodAtlas a)) := by
  have hml : a.Maps.length ≤ 4194304 := Nat.le_trans sizeL_len (show sizeL TPlaces.size a.Maps ≤ 4194304 by unfold TAtlas.size at hs; omega)
  refine spec_of_awp Try.func44 rfl Try.ntmps44 rfl ?_
  refine awp_seq ?_
  refine awp_region ?_
  refine sq_box rfl rfl rfl rfl (ev_tmp rfl) ?_
  intro b1
  refine sq_plain rfl rfl rfl (w_assign rfl ev_cb) ?_
  refine sq_nil ?_
  refine awp_seq ?_
  refine awp_seq ?_
  refine awp_region ?_
  refine sq_plain rfl rfl rfl (w_fldBn 0 rfl Try.underlying74 rfl Try.sizeOf72 (ev_tmp rfl) rfl) ?_
  refine sq_plain rfl rfl rfl (w_loadB1 0 rfl (ev_tmp rfl) rfl Try.isAgg72 rfl) ?_
  refine sq_plain rfl rfl rfl (w_llen rfl Try.underlying72 (ev_tmp rfl)) ?_
  refine sq_plain rfl rfl rfl (w_call rfl Try.call113 rfl (within_spec _ _ _) (evl_cons (ev_tmp rfl) (evl_cons ev_ci (evl_cons ev_ci evl_nil)))) ?_
  refine sq_plain rfl rfl rfl (w_not rfl (ev_tmp rfl)) ?_
  refine sq_plain rfl rfl rfl (w_move rfl (ev_tmp rfl)) ?_
  refine sq_grd rfl rfl (guard_f rfl rfl rfl) (fun hc => w_fldBn 1 rfl Try.underlying74 rfl Try.sizeOf55 (ev_tmp rfl) rfl) ?_
  refine sq_grd rfl rfl (guard_f rfl rfl rfl) (fun hc => w_loadB1 0 rfl (ev_whn rfl hc) rfl Try.isAgg55 rfl) ?_
  refine sq_grd rfl rfl (guard_f rfl rfl rfl) (fun hc => w_llen rfl Try.underlying55 (ev_whn rfl hc)) ?_
  refine sq_grd rfl rfl (guard_f rfl rfl rfl) (fun hc => w_neq rfl (ev_whn rfl hc) ev_ci) ?_
  refine sq_plain rfl rfl rfl (w_or rfl (ev_tmp rfl) (evif_w rfl)) ?_
  refine sq_plain rfl rfl rfl (w_move rfl (ev_tmp rfl)) ?_
  refine sq_grd rfl rfl (guard_f rfl rfl rfl) (fun hc => w_fldBn 1 rfl Try.underlying74 rfl Try.sizeOf55 (ev_tmp rfl) rfl) ?_
  refine sq_grd rfl rfl (guard_f rfl rfl rfl) (fun hc => w_loadB1 0 rfl (ev_whn rfl hc) rfl Try.isAgg55 rfl) ?_
  refine sq_grd rfl rfl (guard_f rfl rfl rfl) (fun hc => w_clo rfl rfl (evl_cons (ev_tmp rfl) evl_nil)) ?_
  refine sq_grd rfl rfl (guard_f rfl rfl rfl) (fun hc => w_callB rfl Try.call115 rfl (containsFuncInt_spec _ _ _ (by first | (intros; trivial) | assumption | (intros; first | trivial | (simp_all; done)))) (flat_bool _) (evlb_cons (evb (ev_whn rfl hc)) (evlb_cons (evb_weaken (evb_clo1 0 (ev_whn rfl hc) rfl) (clo_fun1 Try.call122 (fun n (_ : True) => goodAtlas1_spec _ n (by assumption)))) evlb_nil))) ?_
  refine sq_plain rfl rfl rfl (w_or rfl (ev_tmp rfl) (evif_w rfl)) ?_
  refine sq_nil ?_
  refine awp_cond (ev_tmp rfl) ?_ ?_
  · intro h21
    have h21' := h21
    simp only [List.length_map] at h21'
    have hfin : goodAtlas a = false := by unfold goodAtlas; rw [show (within a.Maps.length 1 12 && ((a.Knows.length : Int) == 4) && !(a.Knows.any fun n => !within n 0 ((a.Maps.length : Int) - 1))) = false from pre_t h21']; rfl
    refine awp_seq ?_
    refine awp_region ?_
    refine sq_plain rfl rfl rfl (w_assign rfl ev_cb) ?_
    refine sq_nil ?_
    refine awp_ret ?_
    exact retR rfl (rv_tmp' rfl (by exact congrArg AV.bool hfin.symm))
  · intro h21
    have h21' := h21
    simp only [List.length_map] at h21'
    have hpre : (within a.Maps.length 1 12 && ((a.Knows.length : Int) == 4) && !(a.Knows.any fun n => !within n 0 ((a.Maps.length : Int) - 1))) = true := pre_f h21'
    have hk4 : a.Knows.length = 4 := by simp only [Bool.and_eq_true, beq_iff_eq] at hpre; omega
    refine awp_skip ?_
    refine awp_seq ?_
    refine awp_seq ?_
    refine awp_region ?_
    refine sq_plain rfl rfl rfl (w_fldBn 0 rfl Try.underlying74 rfl Try.sizeOf72 (ev_tmp rfl) rfl) ?_
    refine sq_plain rfl rfl rfl (w_loadB1 0 rfl (ev_tmp rfl) rfl Try.isAgg72 rfl) ?_
    refine sq_plain rfl rfl rfl (w_llen rfl Try.underlying72 (ev_tmp rfl)) ?_
    refine sq_plain rfl rfl rfl (w_move rfl ev_ci) ?_
    refine sq_nil ?_
    refine awp_block ?_
    refine awp_loop_i [(1, _), (23, _), (24, _)] _ (fun (i : Nat) => i ≤ a.Maps.length ∧ anyI (bad a) a.Maps 0 = anyI (bad a) (a.Maps.drop i) i ∧ (0 < i → goodPlaces (prevM a i) = true)) (fun (i : Nat) => []) (fun (i : Nat) => [(25, AV.int i)]) (fun (i : Nat) => a.Maps.length - i) (0) ?_ (le_env ⟨rfl, rfl, rfl, rfl, trivial⟩) ?_
    · exact ⟨Nat.zero_le _, rfl, fun h => absurd h (by omega)⟩
    intro i hinv
    refine awp_seq ?_
    refine awp_region ?_
    refine sq_plain rfl rfl rfl (w_lss rfl (ev_tmp rfl) (ev_tmp rfl)) ?_
    refine sq_nil ?_
    refine awp_seq ?_
    refine awp_cond (ev_tmp rfl) ?_ ?_
    · intro h26
      have k26 := of_decide_eq_true h26; try simp only [List.length_map] at k26
      have hlt : i < a.Maps.length := by omega
      obtain ⟨x, hx⟩ := get_some hlt
      obtain ⟨y, hy⟩ := get_some (show i - 1 < a.Maps.length by omega)
      have hsx := map_size hs hx
      have hsy := map_size hs hy
      have hpy := prev_get hy
      refine awp_skip ?_
      refine awp_seq ?_
      refine awp_block ?_
      refine awp_seq ?_
      refine awp_region ?_
      refine sq_plain rfl rfl rfl (w_move rfl (ev_tmp rfl)) ?_
      refine sq_plain rfl rfl rfl (w_idxm rfl Try.underlying72 Try.sizeOf57 (ev_tmp rfl) (ev_tmp rfl) hx (by first | omega | ((try simp only [List.length_map, List.length_take, List.length_cons, List.length_nil, chunks_len, szR] at *); omega) | (have hc2 := hc; simp only [Bool.and_eq_true, Bool.or_eq_true, Bool.or_eq_false_iff, Bool.and_eq_false_iff, Bool.not_eq_true', Bool.not_eq_false', decide_eq_true_eq, decide_eq_false_iff_not, beq_iff_eq, bne_iff_ne, List.length_map, List.length_take] at hc2; omega))) ?_
      refine sq_plain rfl rfl rfl (w_loadE rfl (ev_tmp rfl) Try.isAgg57 Try.sizeOf57) ?_
      refine sq_alloc rfl rfl rfl rfl Try.zeroValue3 rfl ?_
      intro b3
      refine sq_alloc rfl rfl rfl rfl Try.zeroValue57 rfl ?_
      intro b4
      refine sq_storeB1 1 rfl rfl rfl (ev_tmp rfl) (ev_tmp rfl) (as_ik _ _) rfl Try.sizeOf3 rfl ?_
      refine sq_storeB0 0 rfl rfl rfl (ev_tmp rfl) (ev_tmp rfl) (as_agg _) rfl Try.sizeOf57 rfl ?_
      refine sq_nil ?_
      refine awp_seq ?_
      refine awp_seq ?_
      refine awp_region_any (by kernel_rfl) (by kernel_rfl) rfl ?_
      refine ch_plain rfl rfl (w_loadA 0 rfl (ev_tmp rfl) rfl Try.isAgg57 Try.sizeOf57 rfl) ?_
      refine ch_plain rfl rfl (w_call rfl Try.call34 rfl (goodPlaces_spec _ (by first | assumption | omega)) (evl_cons (ev_tmp rfl) evl_nil)) ?_
      refine ch_plain rfl rfl (w_not rfl (ev_tmp rfl)) ?_
      refine ch_plain rfl rfl (w_move rfl (ev_tmp rfl)) ?_
      refine ch_grd rfl (guard_f rfl rfl rfl) (fun hc => w_loadB1 1 rfl (ev_tmp rfl) rfl Try.isAgg3 rfl) ?_
      refine ch_grd rfl (guard_f rfl rfl rfl) (fun hc => w_gtr rfl (ev_whn rfl hc) ev_ci) ?_
      refine ch_grd rfl (guard_f rfl rfl rfl) (fun hc => w_move rfl (ev_whn rfl hc)) ?_
      refine ch_grd rfl (guard_wt rfl rfl rfl) (fun hc => w_fldBn 0 rfl Try.underlying74 rfl Try.sizeOf72 (ev_tmp rfl) rfl) ?_
      refine ch_grd rfl (guard_wt rfl rfl rfl) (fun hc => w_loadB1 2 rfl (ev_whn rfl hc) rfl Try.isAgg72 rfl) ?_
      refine ch_grd rfl (guard_wt rfl rfl rfl) (fun hc => w_loadB1 1 rfl (ev_tmp rfl) rfl Try.isAgg3 rfl) ?_
      refine ch_grd rfl (guard_wt rfl rfl rfl) (fun hc => w_subi rfl (ev_whn rfl hc) ev_ci (by first | omega | ((try simp only [List.length_map, List.length_take, List.length_cons, List.length_nil, chunks_len, szR] at *); omega) | (have hc2 := hc; simp only [Bool.and_eq_true, Bool.or_eq_true, Bool.or_eq_false_iff, Bool.and_eq_false_iff, Bool.not_eq_true', Bool.not_eq_false', decide_eq_true_eq, decide_eq_false_iff_not, beq_iff_eq, bne_iff_ne, List.length_map, List.length_take] at hc2; omega))) ?_
      refine ch_grd rfl (guard_wt rfl rfl rfl) (fun hc => w_idxm rfl Try.underlying72 Try.sizeOf57 (ev_whn rfl hc) (ev_whn rfl hc) hy (by first | omega | ((try simp only [List.length_map, List.length_take, List.length_cons, List.length_nil, chunks_len, szR] at *); omega) | (have hc2 := hc; simp only [Bool.and_eq_true, Bool.or_eq_true, Bool.or_eq_false_iff, Bool.and_eq_false_iff, Bool.not_eq_true', Bool.not_eq_false', decide_eq_true_eq, decide_eq_false_iff_not, beq_iff_eq, bne_iff_ne, List.length_map, List.length_take] at hc2; omega))) ?_
      refine ch_grd rfl (guard_wt rfl rfl rfl) (fun hc => w_loadE rfl (ev_whn rfl hc) Try.isAgg57 Try.sizeOf57) ?_
      refine ch_grd rfl (guard_wt rfl rfl rfl) (fun hc => w_loadA 0 rfl (ev_tmp rfl) rfl Try.isAgg57 Try.sizeOf57 rfl) ?_
      refine ch_grd rfl (guard_wt rfl rfl rfl) (fun hc => w_call rfl Try.call123 rfl (isNext_spec _ _ (by first | assumption | omega) (by first | assumption | omega)) (evl_cons (ev_whn rfl hc) (evl_cons (ev_whn rfl hc) evl_nil))) ?_
      refine ch_grd rfl (guard_wt rfl rfl rfl) (fun hc => w_not rfl (ev_whn rfl hc)) ?_
      refine ch_grd rfl (guard_f rfl rfl rfl) (fun hc => w_and rfl (ev_whn rfl hc) (evif_w2 rfl hc)) ?_
      refine ch_plain rfl rfl (w_or rfl (ev_tmp rfl) (evif_w rfl)) ?_
      refine ch_nil ?_
      refine awp_cond (ev_tmp rfl) ?_ ?_
      · intro h47
        have hfin : goodAtlas a = false := by unfold goodAtlas; rw [hpre, hinv.2.1, drop_some hx, anyI]; unfold bad; rw [hpy, h47]; rfl
        refine awp_seq ?_
        refine awp_region ?_
        refine sq_plain rfl rfl rfl (w_assign rfl ev_cb) ?_
        refine sq_nil ?_
        refine awp_ret ?_
        exact retR rfl (rv_tmp' rfl (by exact congrArg AV.bool hfin.symm))
      · intro h47
        have hgx : goodPlaces x = true := by revert h47; cases goodPlaces x <;> simp
        have hgy : goodPlaces y = true := by rcases Nat.eq_zero_or_pos i with h0 | h0; (subst h0; rw [show a.Maps[0 - 1]? = a.Maps[0]? from rfl, hx] at hy; injection hy with hy; rw [← hy]; exact hgx); (rw [← hpy]; exact hinv.2.2 h0)
        have hcr := changed_range hgy hgx
        refine awp_skip ?_
        refine awp_seq ?_
        refine awp_region_any (by kernel_rfl) (by kernel_rfl) rfl ?_
        refine ch_plain rfl rfl (w_loadB1 1 rfl (ev_tmp rfl) rfl Try.isAgg3 rfl) ?_
        refine ch_plain rfl rfl (w_gtr rfl (ev_tmp rfl) ev_ci) ?_
        refine ch_plain rfl rfl (w_move rfl (ev_tmp rfl)) ?_
        refine ch_grd rfl (guard_t rfl rfl rfl) (fun hc => w_fldBn 0 rfl Try.underlying74 rfl Try.sizeOf72 (ev_tmp rfl) rfl) ?_
        refine ch_grd rfl (guard_t rfl rfl rfl) (fun hc => w_loadB1 2 rfl (ev_whn rfl hc) rfl Try.isAgg72 rfl) ?_
        refine ch_grd rfl (guard_t rfl rfl rfl) (fun hc => w_loadB1 1 rfl (ev_tmp rfl) rfl Try.isAgg3 rfl) ?_
        refine ch_grd rfl (guard_t rfl rfl rfl) (fun hc => w_subi rfl (ev_whn rfl hc) ev_ci (by first | omega | ((try simp only [List.length_map, List.length_take, List.length_cons, List.length_nil, chunks_len, szR] at *); omega) | (have hc2 := hc; simp only [Bool.and_eq_true, Bool.or_eq_true, Bool.or_eq_false_iff, Bool.and_eq_false_iff, Bool.not_eq_true', Bool.not_eq_false', decide_eq_true_eq, decide_eq_false_iff_not, beq_iff_eq, bne_iff_ne, List.length_map, List.length_take] at hc2; omega))) ?_
        refine ch_grd rfl (guard_t rfl rfl rfl) (fun hc => w_idxm rfl Try.underlying72 Try.sizeOf57 (ev_whn rfl hc) (ev_whn rfl hc) hy (by first | omega | ((try simp only [List.length_map, List.length_take, List.length_cons, List.length_nil, chunks_len, szR] at *); omega) | (have hc2 := hc; simp only [Bool.and_eq_true, Bool.or_eq_true, Bool.or_eq_false_iff, Bool.and_eq_false_iff, Bool.not_eq_true', Bool.not_eq_false', decide_eq_true_eq, decide_eq_false_iff_not, beq_iff_eq, bne_iff_ne, List.length_map, List.length_take] at hc2; omega))) ?_
        refine ch_grd rfl (guard_t rfl rfl rfl) (fun hc => w_loadE rfl (ev_whn rfl hc) Try.isAgg57 Try.sizeOf57) ?_
        refine ch_grd rfl (guard_t rfl rfl rfl) (fun hc => w_loadA 0 rfl (ev_tmp rfl) rfl Try.isAgg57 Try.sizeOf57 rfl) ?_
        refine ch_grd rfl (guard_t rfl rfl rfl) (fun hc => w_call rfl Try.call124 rfl (changed_spec _ _ (by first | assumption | omega) (by first | assumption | omega) (by assumption) (by assumption)) (evl_cons (ev_whn rfl hc) (evl_cons (ev_whn rfl hc) evl_nil))) ?_
        refine ch_grd rfl (guard_t rfl rfl rfl) (fun hc => w_clo rfl rfl (evl_cons (ev_tmp rfl) (evl_cons (ev_tmp rfl) evl_nil))) ?_
        refine ch_grd rfl (guard_t rfl rfl rfl) (fun hc => w_callB rfl Try.call115 rfl (containsFuncInt_spec _ _ _ (by first | (intros; trivial) | assumption | (intros; first | trivial | (simp_all; done)))) (flat_bool _) (evlb_cons (evb (ev_whn rfl hc)) (evlb_cons (evb_weaken (evb_clo2 2 1 (ev_whn rfl hc) rfl rfl) (clo_fun1 Try.call125 (fun g h => goodAtlas2_spec _ _ g h (by assumption)))) evlb_nil))) ?_
        refine ch_plain rfl rfl (w_and rfl (ev_tmp rfl) (evif_w rfl)) ?_
        refine ch_nil ?_
        refine awp_cond (ev_tmp rfl) ?_ ?_
        · intro h61
          have hfin : goodAtlas a = false := by unfold goodAtlas; rw [hpre, hinv.2.1, drop_some hx, anyI]; unfold bad; rw [hpy, h47, h61]; rfl
          refine awp_seq ?_
          refine awp_region ?_
          refine sq_plain rfl rfl rfl (w_assign rfl ev_cb) ?_
          refine sq_nil ?_
          refine awp_ret ?_
          exact retR rfl (rv_tmp' rfl (by exact congrArg AV.bool hfin.symm))
        · intro h61
          have hno : bad a i x = false := by unfold bad; rw [hpy, h47, h61]; rfl
          refine awp_skip ?_
          refine awp_region ?_
          refine sq_plain rfl rfl rfl (w_addi rfl (ev_tmp rfl) ev_ci (by first | omega | ((try simp only [List.length_map, List.length_take, List.length_cons, List.length_nil, chunks_len, szR] at *); omega) | (have hc2 := hc; simp only [Bool.and_eq_true, Bool.or_eq_true, Bool.or_eq_false_iff, Bool.and_eq_false_iff, Bool.not_eq_true', Bool.not_eq_false', decide_eq_true_eq, decide_eq_false_iff_not, beq_iff_eq, bne_iff_ne, List.length_map, List.length_take] at hc2; omega))) ?_
          refine sq_plain rfl rfl rfl (w_move rfl (ev_tmp rfl)) ?_
          refine sq_nil ?_
          refine round_end i (i + 1) ?_ ?_ (le_drop 2 ⟨rfl, rfl, rfl, rfl, trivial⟩)
          · exact ⟨by omega, by rw [hinv.2.1, drop_some hx, anyI, hno]; rfl, fun _ => by rw [prev_get (x := x) (by simpa using hx)]; exact hgx⟩
          · omega
    · intro h26
      have k26 := of_decide_eq_false h26; try simp only [List.length_map] at k26
      have hge : a.Maps.length ≤ i := by omega
      have hfin : goodAtlas a = true := by unfold goodAtlas; rw [hpre, hinv.2.1, List.drop_eq_nil_of_le hge]; rfl
      refine awp_exit ?_
      refine awp_seq ?_
      refine awp_region ?_
      refine sq_plain rfl rfl rfl (w_assign rfl ev_cb) ?_
      refine sq_nil ?_
      refine awp_ret ?_
      exact retR rfl (rv_tmp' rfl (by exact congrArg AV.bool hfin.symm))
theorem goodAtlasS_spec (a : TAtlas) (hs : a.size ≤ 1048576) : FSpec Try.prog 45 [AV.agg a.cs] (AV.bool (goodAtlasS a)) := by
  have hml : a.Maps.length ≤ 4194304 := Nat.le_trans sizeL_len (show sizeL TPlaces.size a.Maps ≤ 4194304 by unfold TAtlas.size at hs; omega)
  obtain ⟨z, hz⟩ := get_any a.Maps 0
  have hz0 : (((!within (a.Maps.map TPlaces.cs).length 1 12 || ((a.Knows.map fun s => [AV.int s]).length : Int) != 4) || !(a.Knows.all fun n => within n 0 (((a.Maps.map TPlaces.cs).length : Int) - 1))) || !goodPlacesS z) = true → (((!within a.Maps.length 1 12 || !((a.Knows.length : Int) == 4)) || !(a.Knows.all fun n => within n 0 ((a.Maps.length : Int) - 1))) || !goodPlacesS (a.Maps.getD 0 noPlaces)) = true := fun h => by
    simp only [List.length_map] at h
    rcases Nat.eq_zero_or_pos a.Maps.length with h0 | h0
    · rw [h0]; rfl
    · rw [List.getD_eq_getElem?_getD, hz h0]; exact h
  have hm0 : (!((!within (a.Maps.map TPlaces.cs).length 1 12 || ((a.Knows.map fun s => [AV.int s]).length : Int) != 4) || !(a.Knows.all fun n => within n 0 (((a.Maps.map TPlaces.cs).length : Int) - 1)))) = true → 0 < a.Maps.length := fun h => by
    simp only [List.length_map] at h
    rcases Nat.eq_zero_or_pos a.Maps.length with h0 | h0
    · rw [h0, show within ((0 : Nat) : Int) 1 12 = false from rfl] at h; simp at h
    · exact h0
  refine spec_of_awp Try.func45 rfl Try.ntmps45 rfl ?_
  refine awp_seq ?_
  refine awp_region ?_
  refine sq_box rfl rfl rfl rfl (ev_tmp rfl) ?_
  intro b1
  refine sq_plain rfl rfl rfl (w_assign rfl ev_cb) ?_
  refine sq_nil ?_
  refine awp_seq ?_
  refine awp_seq ?_
  refine awp_region ?_
  refine sq_plain rfl rfl rfl (w_fldBn 0 rfl Try.underlying74 rfl Try.sizeOf72 (ev_tmp rfl) rfl) ?_
  refine sq_plain rfl rfl rfl (w_loadB1 0 rfl (ev_tmp rfl) rfl Try.isAgg72 rfl) ?_
  refine sq_plain rfl rfl rfl (w_llen rfl Try.underlying72 (ev_tmp rfl)) ?_
  refine sq_plain rfl rfl rfl (w_call rfl Try.call107 rfl (l1In_spec _ _ _) (evl_cons (ev_tmp rfl) (evl_cons ev_ci (evl_cons ev_ci evl_nil)))) ?_
  refine sq_plain rfl rfl rfl (w_not rfl (ev_tmp rfl)) ?_
  refine sq_plain rfl rfl rfl (w_move rfl (ev_tmp rfl)) ?_
  refine sq_grd rfl rfl (guard_f rfl rfl rfl) (fun hc => w_fldBn 1 rfl Try.underlying74 rfl Try.sizeOf55 (ev_tmp rfl) rfl) ?_
  refine sq_grd rfl rfl (guard_f rfl rfl rfl) (fun hc => w_loadB1 0 rfl (ev_whn rfl hc) rfl Try.isAgg55 rfl) ?_
  refine sq_grd rfl rfl (guard_f rfl rfl rfl) (fun hc => w_llen rfl Try.underlying55 (ev_whn rfl hc)) ?_
  refine sq_grd rfl rfl (guard_f rfl rfl rfl) (fun hc => w_neq rfl (ev_whn rfl hc) ev_ci) ?_
  refine sq_plain rfl rfl rfl (w_or rfl (ev_tmp rfl) (evif_w rfl)) ?_
  refine sq_plain rfl rfl rfl (w_move rfl (ev_tmp rfl)) ?_
  refine sq_grd rfl rfl (guard_f rfl rfl rfl) (fun hc => w_fldBn 1 rfl Try.underlying74 rfl Try.sizeOf55 (ev_tmp rfl) rfl) ?_
  refine sq_grd rfl rfl (guard_f rfl rfl rfl) (fun hc => w_loadB1 0 rfl (ev_whn rfl hc) rfl Try.isAgg55 rfl) ?_
  refine sq_grd rfl rfl (guard_f rfl rfl rfl) (fun hc => w_fldBn 0 rfl Try.underlying74 rfl Try.sizeOf72 (ev_tmp rfl) rfl) ?_
  refine sq_grd rfl rfl (guard_f rfl rfl rfl) (fun hc => w_loadB1 0 rfl (ev_whn rfl hc) rfl Try.isAgg72 rfl) ?_
  refine sq_grd rfl rfl (guard_f rfl rfl rfl) (fun hc => w_llen rfl Try.underlying72 (ev_whn rfl hc)) ?_
  refine sq_grd rfl rfl (guard_f rfl rfl rfl) (fun hc => w_subi rfl (ev_whn rfl hc) ev_ci (by first | omega | ((try simp only [List.length_map, List.length_take, List.length_cons, List.length_nil, chunks_len, szR] at *); omega) | (have hc2 := hc; simp only [Bool.and_eq_true, Bool.or_eq_true, Bool.or_eq_false_iff, Bool.and_eq_false_iff, Bool.not_eq_true', Bool.not_eq_false', decide_eq_true_eq, decide_eq_false_iff_not, beq_iff_eq, bne_iff_ne, List.length_map, List.length_take] at hc2; omega))) ?_
  refine sq_grd rfl rfl (guard_f rfl rfl rfl) (fun hc => w_call rfl Try.call117 rfl (l1All_spec _ _ _) (evl_cons (ev_whn rfl hc) (evl_cons ev_ci (evl_cons (ev_whn rfl hc) evl_nil)))) ?_
  refine sq_grd rfl rfl (guard_f rfl rfl rfl) (fun hc => w_not rfl (ev_whn rfl hc)) ?_
  refine sq_plain rfl rfl rfl (w_or rfl (ev_tmp rfl) (evif_w rfl)) ?_
  refine sq_plain rfl rfl rfl (w_move rfl (ev_tmp rfl)) ?_
  refine sq_grd rfl rfl (guard_f rfl rfl rfl) (fun hc => w_fldBn 0 rfl Try.underlying74 rfl Try.sizeOf72 (ev_tmp rfl) rfl) ?_
  refine sq_grd rfl rfl (guard_f rfl rfl rfl) (fun hc => w_loadB1 0 rfl (ev_whn rfl hc) rfl Try.isAgg72 rfl) ?_
  refine sq_grd rfl rfl (guard_f rfl rfl rfl) (fun hc => w_idx rfl Try.underlying72 Try.sizeOf57 (ev_whn rfl hc) ev_ci (by have := hm0 hc; first | omega | (simp only [List.length_map]; omega)) (by rw [List.getElem?_map, show Int.toNat 0 = 0 from rfl, hz (hm0 hc)]; rfl)) ?_
  refine sq_grd rfl rfl (guard_f rfl rfl rfl) (fun hc => w_loadE rfl (ev_whn rfl hc) Try.isAgg57 Try.sizeOf57) ?_
  refine sq_grd rfl rfl (guard_f rfl rfl rfl) (fun hc => w_call rfl Try.call35 rfl (goodPlacesS_spec z (Nat.le_trans (map_size hs (hz (hm0 hc))) (by decide))) (evl_cons (ev_whn rfl hc) evl_nil)) ?_
  refine sq_grd rfl rfl (guard_f rfl rfl rfl) (fun hc => w_not rfl (ev_whn rfl hc)) ?_
  refine sq_plain rfl rfl rfl (w_or rfl (ev_tmp rfl) (evif_w rfl)) ?_
  refine sq_nil ?_
  refine awp_cond (ev_tmp rfl) ?_ ?_
  · intro h34
    have hfin : goodAtlasS a = false := by unfold goodAtlasS; rw [preS_t (D := goodPlacesS (a.Maps.getD 0 noPlaces)) (hz0 h34)]; rfl
    refine awp_seq ?_
    refine awp_region ?_
    refine sq_plain rfl rfl rfl (w_assign rfl ev_cb) ?_
    refine sq_nil ?_
    refine awp_ret ?_
    exact retR rfl (rv_tmp' rfl (by exact congrArg AV.bool hfin.symm))
  · intro h34
    have h34' := h34
    simp only [List.length_map] at h34'
    have hpre : (within a.Maps.length 1 12 && ((a.Knows.length : Int) == 4) && (a.Knows.all fun n => within n 0 ((a.Maps.length : Int) - 1)) && goodPlacesS z) = true := preS_f h34'
    have hp2 := hpre
    simp only [Bool.and_eq_true, beq_iff_eq] at hp2
    have hk4 : a.Knows.length = 4 := by omega
    have hm1 : 1 ≤ a.Maps.length := by have := hp2.1.1.1; unfold within at this; simp only [Bool.and_eq_true, decide_eq_true_eq] at this; omega
    have hd0 : a.Maps.getD 0 noPlaces = z := by rw [List.getD_eq_getElem?_getD, hz (by omega)]; rfl
    have hfe : goodAtlasS a = !anyI (badS a) (a.Maps.drop 1) 1 := by unfold goodAtlasS; rw [hd0, hpre]; rfl
    refine awp_skip ?_
    refine awp_seq ?_
    refine awp_seq ?_
    refine awp_region ?_
    refine sq_plain rfl rfl rfl (w_assign rfl ev_ci) ?_
    refine sq_nil ?_
    refine awp_block ?_
    refine awp_loop_i [(1, _)] _ (fun (i : Nat) => 1 ≤ i ∧ i ≤ a.Maps.length ∧ anyI (badS a) (a.Maps.drop 1) 1 = anyI (badS a) (a.Maps.drop i) i ∧ goodPlaces (prevM a i) = true) (fun (i : Nat) => []) (fun (i : Nat) => [(3, AV.int i)]) (fun (i : Nat) => a.Maps.length - i) (1) ?_ (le_env ⟨rfl, rfl, trivial⟩) ?_
    · exact ⟨Nat.le_refl _, hm1, rfl, by rw [prev_get (x := z) (hz (by omega)), goodPlaces_eq]; exact hp2.2⟩
    intro i hinv
    have hi0 := hinv
    refine awp_seq ?_
    refine awp_seq ?_
    refine awp_region ?_
    refine sq_plain rfl rfl rfl (w_move rfl (ev_tmp rfl)) ?_
    refine sq_plain rfl rfl rfl (w_fldBn 0 rfl Try.underlying74 rfl Try.sizeOf72 (ev_tmp rfl) rfl) ?_
    refine sq_plain rfl rfl rfl (w_loadB1 0 rfl (ev_tmp rfl) rfl Try.isAgg72 rfl) ?_
    refine sq_plain rfl rfl rfl (w_llen rfl Try.underlying72 (ev_tmp rfl)) ?_
    refine sq_plain rfl rfl rfl (w_lss rfl (ev_tmp rfl) (ev_tmp rfl)) ?_
    refine sq_nil ?_
    refine awp_cond (ev_tmp rfl) ?_ ?_
    · intro h39
      have k39 := of_decide_eq_true h39; try simp only [List.length_map] at k39
      have hlt : i < a.Maps.length := by omega
      obtain ⟨x, hx⟩ := get_some hlt
      obtain ⟨y, hy⟩ := get_some (show i - 1 < a.Maps.length by omega)
      have hsx := map_size hs hx
      have hsy := map_size hs hy
      have hpy := prev_get hy
      refine awp_skip ?_
      refine awp_seq ?_
      refine awp_block ?_
      refine awp_seq ?_
      refine awp_seq ?_
      refine awp_region_any (by kernel_rfl) (by kernel_rfl) rfl ?_
      refine ch_plain rfl rfl (w_fldBn 0 rfl Try.underlying74 rfl Try.sizeOf72 (ev_tmp rfl) rfl) ?_
      refine ch_plain rfl rfl (w_loadB1 0 rfl (ev_tmp rfl) rfl Try.isAgg72 rfl) ?_
      refine ch_plain rfl rfl (w_move rfl (ev_tmp rfl)) ?_
      refine ch_plain rfl rfl (w_idxm rfl Try.underlying72 Try.sizeOf57 (ev_tmp rfl) (ev_tmp rfl) hx (by first | omega | ((try simp only [List.length_map, List.length_take, List.length_cons, List.length_nil, chunks_len, szR] at *); omega) | (have hc2 := hc; simp only [Bool.and_eq_true, Bool.or_eq_true, Bool.or_eq_false_iff, Bool.and_eq_false_iff, Bool.not_eq_true', Bool.not_eq_false', decide_eq_true_eq, decide_eq_false_iff_not, beq_iff_eq, bne_iff_ne, List.length_map, List.length_take] at hc2; omega))) ?_
      refine ch_plain rfl rfl (w_loadE rfl (ev_tmp rfl) Try.isAgg57 Try.sizeOf57) ?_
      refine ch_plain rfl rfl (w_call rfl Try.call35 rfl (goodPlacesS_spec _ (by first | assumption | omega)) (evl_cons (ev_tmp rfl) evl_nil)) ?_
      refine ch_plain rfl rfl (w_not rfl (ev_tmp rfl)) ?_
      refine ch_plain rfl rfl (w_move rfl (ev_tmp rfl)) ?_
      refine ch_grd rfl (guard_f rfl rfl rfl) (fun hc => w_fldBn 0 rfl Try.underlying74 rfl Try.sizeOf72 (ev_tmp rfl) rfl) ?_
      refine ch_grd rfl (guard_f rfl rfl rfl) (fun hc => w_loadB1 0 rfl (ev_whn rfl hc) rfl Try.isAgg72 rfl) ?_
      refine ch_grd rfl (guard_f rfl rfl rfl) (fun hc => w_move rfl (ev_tmp rfl)) ?_
      refine ch_grd rfl (guard_f rfl rfl rfl) (fun hc => w_subi rfl (ev_whn rfl hc) ev_ci (by first | omega | ((try simp only [List.length_map, List.length_take, List.length_cons, List.length_nil, chunks_len, szR] at *); omega) | (have hc2 := hc; simp only [Bool.and_eq_true, Bool.or_eq_true, Bool.or_eq_false_iff, Bool.and_eq_false_iff, Bool.not_eq_true', Bool.not_eq_false', decide_eq_true_eq, decide_eq_false_iff_not, beq_iff_eq, bne_iff_ne, List.length_map, List.length_take] at hc2; omega))) ?_
      refine ch_grd rfl (guard_f rfl rfl rfl) (fun hc => w_idxm rfl Try.underlying72 Try.sizeOf57 (ev_whn rfl hc) (ev_whn rfl hc) hy (by first | omega | ((try simp only [List.length_map, List.length_take, List.length_cons, List.length_nil, chunks_len, szR] at *); omega) | (have hc2 := hc; simp only [Bool.and_eq_true, Bool.or_eq_true, Bool.or_eq_false_iff, Bool.and_eq_false_iff, Bool.not_eq_true', Bool.not_eq_false', decide_eq_true_eq, decide_eq_false_iff_not, beq_iff_eq, bne_iff_ne, List.length_map, List.length_take] at hc2; omega))) ?_
      refine ch_grd rfl (guard_f rfl rfl rfl) (fun hc => w_loadE rfl (ev_whn rfl hc) Try.isAgg57 Try.sizeOf57) ?_
      refine ch_grd rfl (guard_f rfl rfl rfl) (fun hc => w_fldBn 0 rfl Try.underlying74 rfl Try.sizeOf72 (ev_tmp rfl) rfl) ?_
      refine ch_grd rfl (guard_f rfl rfl rfl) (fun hc => w_loadB1 0 rfl (ev_whn rfl hc) rfl Try.isAgg72 rfl) ?_
      refine ch_grd rfl (guard_f rfl rfl rfl) (fun hc => w_move rfl (ev_tmp rfl)) ?_
      refine ch_grd rfl (guard_f rfl rfl rfl) (fun hc => w_idxm rfl Try.underlying72 Try.sizeOf57 (ev_whn rfl hc) (ev_whn rfl hc) hx (by first | omega | ((try simp only [List.length_map, List.length_take, List.length_cons, List.length_nil, chunks_len, szR] at *); omega) | (have hc2 := hc; simp only [Bool.and_eq_true, Bool.or_eq_true, Bool.or_eq_false_iff, Bool.and_eq_false_iff, Bool.not_eq_true', Bool.not_eq_false', decide_eq_true_eq, decide_eq_false_iff_not, beq_iff_eq, bne_iff_ne, List.length_map, List.length_take] at hc2; omega))) ?_
      refine ch_grd rfl (guard_f rfl rfl rfl) (fun hc => w_loadE rfl (ev_whn rfl hc) Try.isAgg57 Try.sizeOf57) ?_
      refine ch_grd rfl (guard_f rfl rfl rfl) (fun hc => w_call rfl Try.call126 rfl (l21Next_spec _ _ (by first | assumption | omega) (by first | assumption | omega)) (evl_cons (ev_whn rfl hc) (evl_cons (ev_whn rfl hc) evl_nil))) ?_
      refine ch_grd rfl (guard_f rfl rfl rfl) (fun hc => w_not rfl (ev_whn rfl hc)) ?_
      refine ch_plain rfl rfl (w_or rfl (ev_tmp rfl) (evif_w rfl)) ?_
      refine ch_nil ?_
      refine awp_cond (ev_tmp rfl) ?_ ?_
      · intro h63
        have hfin : goodAtlasS a = false := by rw [hfe, hi0.2.2.1, drop_some hx, anyI]; unfold badS; rw [hpy, h63]; rfl
        refine awp_seq ?_
        refine awp_region ?_
        refine sq_plain rfl rfl rfl (w_assign rfl ev_cb) ?_
        refine sq_nil ?_
        refine awp_ret ?_
        exact retR rfl (rv_tmp' rfl (by exact congrArg AV.bool hfin.symm))
      · intro h63
        have hg2 : goodPlacesS x = true ∧ isNextS y x = true := by revert h63; cases goodPlacesS x <;> cases isNextS y x <;> simp
        have hgx : goodPlaces x = true := by rw [goodPlaces_eq]; exact hg2.1
        have hgy : goodPlaces y = true := by rw [← hpy]; exact hi0.2.2.2
        have hcc := changed_eq hgy hgx (by rw [isNext_eq]; exact hg2.2)
        have hcr := changed_range hgy hgx
        rw [hcc] at hcr
        have hc2 := concerned_len y x
        refine awp_skip ?_
        refine awp_seq ?_
        refine awp_region_any (by kernel_rfl) (by kernel_rfl) rfl ?_
        refine ch_plain rfl rfl (w_fldBn 0 rfl Try.underlying74 rfl Try.sizeOf72 (ev_tmp rfl) rfl) ?_
        refine ch_plain rfl rfl (w_loadB1 0 rfl (ev_tmp rfl) rfl Try.isAgg72 rfl) ?_
        refine ch_plain rfl rfl (w_move rfl (ev_tmp rfl)) ?_
        refine ch_plain rfl rfl (w_subi rfl (ev_tmp rfl) ev_ci (by first | omega | ((try simp only [List.length_map, List.length_take, List.length_cons, List.length_nil, chunks_len, szR] at *); omega) | (have hc2 := hc; simp only [Bool.and_eq_true, Bool.or_eq_true, Bool.or_eq_false_iff, Bool.and_eq_false_iff, Bool.not_eq_true', Bool.not_eq_false', decide_eq_true_eq, decide_eq_false_iff_not, beq_iff_eq, bne_iff_ne, List.length_map, List.length_take] at hc2; omega))) ?_
        refine ch_plain rfl rfl (w_idxm rfl Try.underlying72 Try.sizeOf57 (ev_tmp rfl) (ev_tmp rfl) hy (by first | omega | ((try simp only [List.length_map, List.length_take, List.length_cons, List.length_nil, chunks_len, szR] at *); omega) | (have hc2 := hc; simp only [Bool.and_eq_true, Bool.or_eq_true, Bool.or_eq_false_iff, Bool.and_eq_false_iff, Bool.not_eq_true', Bool.not_eq_false', decide_eq_true_eq, decide_eq_false_iff_not, beq_iff_eq, bne_iff_ne, List.length_map, List.length_take] at hc2; omega))) ?_
        refine ch_plain rfl rfl (w_loadE rfl (ev_tmp rfl) Try.isAgg57 Try.sizeOf57) ?_
        refine ch_plain rfl rfl (w_fldBn 0 rfl Try.underlying74 rfl Try.sizeOf72 (ev_tmp rfl) rfl) ?_
        refine ch_plain rfl rfl (w_loadB1 0 rfl (ev_tmp rfl) rfl Try.isAgg72 rfl) ?_
        refine ch_plain rfl rfl (w_move rfl (ev_tmp rfl)) ?_
        refine ch_plain rfl rfl (w_idxm rfl Try.underlying72 Try.sizeOf57 (ev_tmp rfl) (ev_tmp rfl) hx (by first | omega | ((try simp only [List.length_map, List.length_take, List.length_cons, List.length_nil, chunks_len, szR] at *); omega) | (have hc2 := hc; simp only [Bool.and_eq_true, Bool.or_eq_true, Bool.or_eq_false_iff, Bool.and_eq_false_iff, Bool.not_eq_true', Bool.not_eq_false', decide_eq_true_eq, decide_eq_false_iff_not, beq_iff_eq, bne_iff_ne, List.length_map, List.length_take] at hc2; omega))) ?_
        refine ch_plain rfl rfl (w_loadE rfl (ev_tmp rfl) Try.isAgg57 Try.sizeOf57) ?_
        refine ch_plain rfl rfl (w_call rfl Try.call127 rfl (concerned_spec _ _ (by first | assumption | omega) (by first | assumption | omega)) (evl_cons (ev_tmp rfl) (evl_cons (ev_tmp rfl) evl_nil))) ?_
        refine ch_plain rfl rfl (w_llen rfl Try.underlying55 (ev_tmp rfl)) ?_
        refine ch_plain rfl rfl (w_move rfl ev_ci) ?_
        refine ch_nil ?_
        refine awp_block ?_
        refine awp_loop_i [(1, _), (3, _), (35, _), (36, _), (37, _), (38, _), (39, _), (42, _), (43, _), (44, _), (45, _), (46, _), (47, _), (48, _), (49, _), (63, _), (64, _), (65, _), (66, _), (67, _), (68, _), (69, _), (70, _), (71, _), (72, _), (73, _), (74, _), (75, _), (76, _)] _ (fun (j : Nat) => j ≤ (concerned y x).length ∧ (concerned y x).any (late a i) = ((concerned y x).drop j).any (late a i)) (fun (j : Nat) => []) (fun (j : Nat) => [(77, AV.int j)]) (fun (j : Nat) => (concerned y x).length - j) (0) ?_ (le_env ⟨rfl, rfl, rfl, rfl, rfl, rfl, rfl, rfl, rfl, rfl, rfl, rfl, rfl, rfl, rfl, rfl, rfl, rfl, rfl, rfl, rfl, rfl, rfl, rfl, rfl, rfl, rfl, rfl, rfl, rfl, trivial⟩) ?_
        · exact ⟨Nat.zero_le _, rfl⟩
        intro j hinv
        refine awp_seq ?_
        refine awp_region ?_
        refine sq_plain rfl rfl rfl (w_lss rfl (ev_tmp rfl) (ev_tmp rfl)) ?_
        refine sq_nil ?_
        refine awp_seq ?_
        refine awp_cond (ev_tmp rfl) ?_ ?_
        · intro h78
          have k78 := of_decide_eq_true h78; try simp only [List.length_map] at k78
          have hlj : j < (concerned y x).length := by omega
          obtain ⟨u, hu⟩ := get_some hlj
          have hur := hcr u (List.mem_of_getElem? hu)
          obtain ⟨w, hw⟩ := get_some (show u.toNat < a.Knows.length by omega)
          have hlate : late a i u = decide (w < (i : Int)) := by unfold late; rw [List.getD_eq_getElem?_getD, hw]; rfl
          refine awp_skip ?_
          refine awp_seq ?_
          refine awp_block ?_
          refine awp_seq ?_
          refine awp_region ?_
          refine sq_plain rfl rfl rfl (w_idxm rfl Try.underlying55 Try.sizeOf3 (ev_tmp rfl) (ev_tmp rfl) hu (by first | omega | ((try simp only [List.length_map, List.length_take, List.length_cons, List.length_nil, chunks_len, szR] at *); omega) | (have hc2 := hc; simp only [Bool.and_eq_true, Bool.or_eq_true, Bool.or_eq_false_iff, Bool.and_eq_false_iff, Bool.not_eq_true', Bool.not_eq_false', decide_eq_true_eq, decide_eq_false_iff_not, beq_iff_eq, bne_iff_ne, List.length_map, List.length_take] at hc2; omega))) ?_
          refine sq_plain rfl rfl rfl (w_loadE1 rfl (ev_tmp rfl) Try.isAgg3 rfl) ?_
          refine sq_plain rfl rfl rfl (w_assign rfl (ev_tmp rfl)) ?_
          refine sq_nil ?_
          refine awp_seq ?_
          refine awp_region ?_
          refine sq_plain rfl rfl rfl (w_fldBn 1 rfl Try.underlying74 rfl Try.sizeOf55 (ev_tmp rfl) rfl) ?_
          refine sq_plain rfl rfl rfl (w_loadB1 0 rfl (ev_tmp rfl) rfl Try.isAgg55 rfl) ?_
          refine sq_plain rfl rfl rfl (w_move rfl (ev_tmp rfl)) ?_
          refine sq_plain rfl rfl rfl (w_idx rfl Try.underlying55 Try.sizeOf3 (ev_tmp rfl) (ev_tmp rfl) (by omega) (by rw [List.getElem?_map, hw]; rfl)) ?_
          refine sq_plain rfl rfl rfl (w_loadE1 rfl (ev_tmp rfl) Try.isAgg3 rfl) ?_
          refine sq_plain rfl rfl rfl (w_move rfl (ev_tmp rfl)) ?_
          refine sq_plain rfl rfl rfl (w_lss rfl (ev_tmp rfl) (ev_tmp rfl)) ?_
          refine sq_nil ?_
          refine awp_cond (ev_tmp rfl) ?_ ?_
          · intro h87
            have k87 := of_decide_eq_true h87; try simp only [List.length_map] at k87
            have hfin : goodAtlasS a = false := by rw [hfe, hi0.2.2.1, drop_some hx, anyI]; unfold badS; rw [hpy, hinv.2, drop_some hu, List.any_cons, hlate, h87]; simp
            refine awp_seq ?_
            refine awp_region ?_
            refine sq_plain rfl rfl rfl (w_assign rfl ev_cb) ?_
            refine sq_nil ?_
            refine awp_ret ?_
            exact retR rfl (rv_tmp' rfl (by exact congrArg AV.bool hfin.symm))
          · intro h87
            have k87 := of_decide_eq_false h87; try simp only [List.length_map] at k87
            refine awp_skip ?_
            refine awp_region ?_
            refine sq_plain rfl rfl rfl (w_addi rfl (ev_tmp rfl) ev_ci (by first | omega | ((try simp only [List.length_map, List.length_take, List.length_cons, List.length_nil, chunks_len, szR] at *); omega) | (have hc2 := hc; simp only [Bool.and_eq_true, Bool.or_eq_true, Bool.or_eq_false_iff, Bool.and_eq_false_iff, Bool.not_eq_true', Bool.not_eq_false', decide_eq_true_eq, decide_eq_false_iff_not, beq_iff_eq, bne_iff_ne, List.length_map, List.length_take] at hc2; omega))) ?_
            refine sq_plain rfl rfl rfl (w_move rfl (ev_tmp rfl)) ?_
            refine sq_nil ?_
            refine round_end j (j + 1) ?_ ?_ (le_env ⟨rfl, rfl, rfl, rfl, rfl, rfl, rfl, rfl, rfl, rfl, rfl, rfl, rfl, rfl, rfl, rfl, rfl, rfl, rfl, rfl, rfl, rfl, rfl, rfl, rfl, rfl, rfl, rfl, rfl, rfl, trivial⟩)
            · exact ⟨by omega, by rw [hinv.2, drop_some hu, List.any_cons, hlate, h87]; rfl⟩
            · omega
        · intro h78
          have k78 := of_decide_eq_false h78; try simp only [List.length_map] at k78
          have hgj : (concerned y x).length ≤ j := by omega
          have hno : badS a i x = false := by unfold badS; rw [hpy, h63, hinv.2, List.drop_eq_nil_of_le hgj]; rfl
          refine awp_exit ?_
          refine awp_region ?_
          refine sq_plain rfl rfl rfl (w_move rfl (ev_tmp rfl)) ?_
          refine sq_plain rfl rfl rfl (w_addi rfl (ev_tmp rfl) ev_ci (by first | omega | ((try simp only [List.length_map, List.length_take, List.length_cons, List.length_nil, chunks_len, szR] at *); omega) | (have hc2 := hc; simp only [Bool.and_eq_true, Bool.or_eq_true, Bool.or_eq_false_iff, Bool.and_eq_false_iff, Bool.not_eq_true', Bool.not_eq_false', decide_eq_true_eq, decide_eq_false_iff_not, beq_iff_eq, bne_iff_ne, List.length_map, List.length_take] at hc2; omega))) ?_
          refine sq_plain rfl rfl rfl (w_assign rfl (ev_tmp rfl)) ?_
          refine sq_nil ?_
          refine round_end i (i + 1) ?_ ?_ (le_env ⟨rfl, rfl, trivial⟩)
          · exact ⟨by omega, by omega, by rw [hi0.2.2.1, drop_some hx, anyI, hno]; rfl, by rw [prev_get (x := x) (by simpa using hx)]; exact hgx⟩
          · omega
    · intro h39
      have k39 := of_decide_eq_false h39; try simp only [List.length_map] at k39
      have hge : a.Maps.length ≤ i := by omega
      have hfin : goodAtlasS a = true := by rw [hfe, hi0.2.2.1, List.drop_eq_nil_of_le hge]; rfl
      refine awp_exit ?_
      refine awp_seq ?_
      refine awp_region ?_
      refine sq_plain rfl rfl rfl (w_assign rfl ev_cb) ?_
      refine sq_nil ?_
      refine awp_ret ?_
      exact retR rfl (rv_tmp' rfl (by exact congrArg AV.bool hfin.symm))
end Go.Proofs.Ytdbmaekdejhobaa
