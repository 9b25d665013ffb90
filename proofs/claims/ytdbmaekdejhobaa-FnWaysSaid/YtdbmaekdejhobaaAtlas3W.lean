/- Walks: atlases copied and changed. -/
import Derived.Test.YtdbmaekdejhobaaAtlas2W
set_option linter.unusedVariables false
set_option linter.unusedSimpArgs false
set_option maxRecDepth 100000
namespace Go.Proofs.Ytdbmaekdejhobaa
open Go Go.AV Go.M
attribute [local irreducible] OpW OpA OpS AWP FSpec ESpec GSpec OpE RetOk RetOkG RvDen Le Ev GuardIs SrcIs
theorem copyAtlas_own (a : TAtlas) (hs : a.size ≤ 1048576) : GSpec Try.prog 129 [AV.agg a.cs] [] (fun x : Value × Value × List (Value × Value) => x.2.2.length = a.Maps.length) (fun x => TAtlas.ow a x) (fun x => AV.agg (TAtlas.ocs a x)) := by
  have hs' := hs; unfold TAtlas.size at hs'
  have hml : a.Maps.length ≤ 4194304 := Nat.le_trans sizeL_len (show sizeL TPlaces.size a.Maps ≤ 4194304 by omega)
  refine gspec_of_awp Try.func129 rfl Try.ntmps129 rfl ?_
  refine awp_seq ?_
  refine awp_region ?_
  refine sq_box rfl rfl rfl rfl (ev_tmp rfl) ?_
  intro b1
  refine sq_alloc rfl rfl rfl rfl Try.zeroValue74 rfl ?_
  intro b2
  refine sq_nil ?_
  refine awp_seq ?_
  refine awp_region ?_
  refine sq_plain rfl rfl rfl (w_fldBn 1 rfl Try.underlying74 rfl Try.sizeOf55 (ev_tmp rfl) rfl) ?_
  refine sq_plain rfl rfl rfl (w_loadB1 1 rfl (ev_tmp rfl) rfl Try.isAgg55 rfl) ?_
  refine sq_callG [] rfl rfl rfl rfl Try.call168 rfl (cloneInt_spec _ (by first | assumption | omega)) (evl_cons (ev_tmp rfl) evl_nil) rfl ?_
  intro x8 ok8
  refine sq_fact 0 rfl fun one_x8 => ?_
  refine sq_plain rfl rfl rfl (w_build (places := #[(0, 1), (1, 1)]) rfl Try.underlying74 Try.zeroValue74 (fun w => by kernel_rfl) rfl (bp_cons (ev_tmp rfl) (as_is one_x8) bp_nil) rfl) ?_
  refine sq_alloc rfl rfl rfl rfl Try.zeroValue74 rfl ?_
  intro b3
  refine sq_storeB0 0 rfl rfl rfl (ev_tmp rfl) (ev_tmp rfl) (as_agg _) rfl Try.sizeOf74 rfl ?_
  refine sq_nil ?_
  refine awp_seq ?_
  refine awp_seq ?_
  refine awp_region ?_
  refine sq_plain rfl rfl rfl (w_fldBn 0 rfl Try.underlying74 rfl Try.sizeOf72 (ev_tmp rfl) rfl) ?_
  refine sq_plain rfl rfl rfl (w_loadB1 3 rfl (ev_tmp rfl) rfl Try.isAgg72 rfl) ?_
  refine sq_plain rfl rfl rfl (w_llen rfl Try.underlying72 (ev_tmp rfl)) ?_
  refine sq_plain rfl rfl rfl (w_move rfl ev_ci) ?_
  refine sq_nil ?_
  refine awp_block ?_
  refine awp_nilown 57 3 ?_
  refine AWP.le (le_pick [1, 0] rfl) ?_
  refine awp_loop_i3 [(2, _), (3, _), (11, _), (12, _)] [] (fun (i : Nat) (v : Value) (xs : List (Value × Value)) => i ≤ a.Maps.length ∧ xs.length = i) (fun (i : Nat) (v : Value) (xs : List (Value × Value)) => [.box b3 74 [AV.is v, AV.is x8], .arr v 57 3 (nrows TPlaces.ocs (a.Maps.take i) xs), .arr x8 3 1 (a.Knows.map (fun x => [AV.int x])), .box b2 74 [AV.nils, AV.nils], .box b1 74 a.cs] ++ (nin TPlaces.ow (a.Maps.take i) xs)) (fun (i : Nat) (v : Value) (xs : List (Value × Value)) => [(13, AV.int i)]) (fun (i : Nat) (v : Value) (xs : List (Value × Value)) => a.Maps.length - i) (0) (Value.slice none 0 0) ([]) ?_ (le_eq (by rfl) ⟨rfl, rfl, rfl, rfl, rfl, trivial⟩) ?_
  · exact ⟨Nat.zero_le _, rfl⟩
  intro i v xs hinv
  refine awp_own (List.append_nil _) ?_
  refine awp_seq ?_
  refine awp_region ?_
  refine sq_plain rfl rfl rfl (w_lss rfl (ev_tmp rfl) (ev_tmp rfl)) ?_
  refine sq_nil ?_
  refine awp_seq ?_
  refine awp_cond (ev_tmp rfl) ?_ ?_
  · intro h14
    have k14 := of_decide_eq_true h14; try simp only [List.length_map] at k14
    have hlt : i < a.Maps.length := by omega
    obtain ⟨x, hx⟩ := get_some hlt
    have hsx := map_size hs hx
    refine awp_skip ?_
    refine awp_seq ?_
    refine awp_block ?_
    refine awp_seq ?_
    refine awp_region ?_
    refine sq_plain rfl rfl rfl (w_idxm rfl Try.underlying72 Try.sizeOf57 (ev_tmp rfl) (ev_tmp rfl) hx (by first | omega | ((try simp only [List.length_map, List.length_take, List.length_cons, List.length_nil, chunks_len, szR] at *); omega) | (have hc2 := hc; simp only [Bool.and_eq_true, Bool.or_eq_true, Bool.or_eq_false_iff, Bool.and_eq_false_iff, Bool.not_eq_true', Bool.not_eq_false', decide_eq_true_eq, decide_eq_false_iff_not, beq_iff_eq, bne_iff_ne, List.length_map, List.length_take] at hc2; omega))) ?_
    refine sq_plain rfl rfl rfl (w_loadE rfl (ev_tmp rfl) Try.isAgg57 Try.sizeOf57) ?_
    refine sq_alloc rfl rfl rfl rfl Try.zeroValue57 rfl ?_
    intro b5
    refine sq_storeB0 0 rfl rfl rfl (ev_tmp rfl) (ev_tmp rfl) (as_agg _) rfl Try.sizeOf57 rfl ?_
    refine sq_nil ?_
    refine AWP.le (le_pick [0, 0] rfl) ?_
    refine awp_region_mix _ [(0, false), (1, false), (2, false), (3, true), (4, false), (5, true)] (by kernel_rfl) (by kernel_rfl) rfl (invx_take 2) ?_
    refine bc_plain rfl rfl rfl (fun ext => w_fldBn 0 rfl Try.underlying74 rfl Try.sizeOf72 (ev_tmp rfl) rfl) ?_
    refine bc_plain rfl rfl rfl (fun ext => w_loadB1 1 rfl (ev_tmp rfl) rfl Try.isAgg72 rfl) ?_
    refine bc_plain rfl rfl rfl (fun ext => w_loadA 0 rfl (ev_tmp rfl) rfl Try.isAgg57 Try.sizeOf57 rfl) ?_
    refine bc_eff rfl rfl rfl (opE_mid 6 (opE_call [] rfl Try.call95 rfl (copyPlaces_own _ (by first | assumption | omega)) (evl_cons (ev_tmp rfl) evl_nil) rfl)) (fun a _ => (by first | exact invx_mk rfl | exact invx_mk (List.append_assoc _ _ _) | exact invx_all)) ?_
    intro x20 ok20
    refine bc_plain rfl rfl rfl (fun ext => w_bslice rfl Try.underlying72 Try.sizeOf57 Try.zeroValue57 rfl rfl rfl rfl (bp_cons (ev_tmp rfl) (as_agg _) bp_nil) rfl rfl) ?_
    refine bc_eff rfl rfl rfl (opE_append (by' := 56) 2 rfl Try.underlying72 Try.type57 rfl rfl rfl rfl rfl rfl (ev_tmp rfl) (ev_tmp rfl) rfl (by rw [nrows_len (by rw [hinv.2, List.length_take]; omega), chunks_len, List.length_take]; omega)) (fun a _ => (by first | exact invx_mk rfl | exact invx_mk (List.append_assoc _ _ _) | exact invx_all)) ?_
    intro v22_1 _
    refine bc_nil ?_
    refine sq_plain rfl rfl rfl (w_fldBn 0 rfl Try.underlying74 rfl Try.sizeOf72 (ev_tmp rfl) rfl) ?_
    refine sq_fact 2 rfl fun one_v22_1 => ?_
    refine sq_storeB1 1 rfl rfl rfl (ev_tmp rfl) (ev_tmp rfl) (as_is one_v22_1) rfl Try.sizeOf72 rfl ?_
    refine sq_nil ?_
    refine awp_own (by first | (simp only [TPlaces.ow, pick, List.eraseIdx_cons_zero, List.eraseIdx_cons_succ, List.set_cons_zero, List.set_cons_succ, List.cons_append, List.nil_append, List.getElem?_cons_zero, List.getElem?_cons_succ, List.append_nil, List.take_succ_cons, List.take_zero, List.drop_succ_cons, List.drop_zero]; exact rfl) | exact rfl) ?_
    refine AWP.le (le_pick [0, 0, 0, 0, 0, 0, 0, 0] rfl) ?_
    refine AWP.le (le_tail 6 (t := nin TPlaces.ow (a.Maps.take (i + 1)) (xs ++ [x20])) (nin_step (ow := TPlaces.ow) (x := x20) hx hinv.2)) ?_
    refine awp_region ?_
    refine sq_plain rfl rfl rfl (w_addi rfl (ev_tmp rfl) ev_ci (by first | omega | ((try simp only [List.length_map, List.length_take, List.length_cons, List.length_nil, chunks_len, szR] at *); omega) | (have hc2 := hc; simp only [Bool.and_eq_true, Bool.or_eq_true, Bool.or_eq_false_iff, Bool.and_eq_false_iff, Bool.not_eq_true', Bool.not_eq_false', decide_eq_true_eq, decide_eq_false_iff_not, beq_iff_eq, bne_iff_ne, List.length_map, List.length_take] at hc2; omega))) ?_
    refine sq_plain rfl rfl rfl (w_move rfl (ev_tmp rfl)) ?_
    refine sq_nil ?_
    refine round_end3 i v xs (i + 1) (v22_1) (xs ++ [x20]) ?_ ?_ (le_dropeq 1 (Eq.trans (by exact congrArg (fun z => Own.box _ _ _ :: Own.arr _ _ _ z :: _) (nrows_step hx hinv.2)) (List.append_nil _).symm) ⟨rfl, rfl, rfl, rfl, rfl, trivial⟩)
    · exact ⟨by omega, by rw [List.length_append, hinv.2]; rfl⟩
    · omega
  · intro h14
    have k14 := of_decide_eq_false h14; try simp only [List.length_map] at k14
    have hge : i = a.Maps.length := by omega
    have hxs := hinv.2.trans hge
    rw [show a.Maps.take i = a.Maps from List.take_of_length_le (by omega)]
    refine awp_exit ?_
    refine awp_seq ?_
    refine awp_region ?_
    refine sq_plain rfl rfl rfl (w_loadA 0 rfl (ev_tmp rfl) rfl Try.isAgg74 Try.sizeOf74 rfl) ?_
    refine sq_storeB0 3 rfl rfl rfl (ev_tmp rfl) (ev_tmp rfl) (as_agg _) rfl Try.sizeOf74 rfl ?_
    refine sq_nil ?_
    refine awp_ret ?_
    exact retGT [1, 1] 3 (nin TPlaces.ow a.Maps xs) [] (v, x8, xs) (hxs) rfl (show List.Perm (nin TPlaces.ow a.Maps xs) ((nin TPlaces.ow a.Maps xs) ++ []) from perm_nil) (by rfl) (resR rfl (rv_cell (ys := _) 3 rfl rfl Try.isAgg74 Try.sizeOf74 rfl))
theorem l21Own_own (a : TAtlas) (hs : a.size ≤ 1048576) : GSpec Try.prog 130 [AV.agg a.cs] [] (fun x : Value × Value × List (Value × Value) => x.2.2.length = a.Maps.length) (fun x => TAtlas.ow a x) (fun x => AV.agg (TAtlas.ocs a x)) := by
  have hs' := hs; unfold TAtlas.size at hs'
  have hml : a.Maps.length ≤ 4194304 := Nat.le_trans sizeL_len (show sizeL TPlaces.size a.Maps ≤ 4194304 by omega)
  refine gspec_of_awp Try.func130 rfl Try.ntmps130 rfl ?_
  refine awp_seq ?_
  refine awp_region ?_
  refine sq_box rfl rfl rfl rfl (ev_tmp rfl) ?_
  intro b1
  refine sq_alloc rfl rfl rfl rfl Try.zeroValue74 rfl ?_
  intro b2
  refine sq_nil ?_
  refine awp_seq ?_
  refine awp_region ?_
  refine sq_plain rfl rfl rfl (w_fldBn 1 rfl Try.underlying74 rfl Try.sizeOf55 (ev_tmp rfl) rfl) ?_
  refine sq_plain rfl rfl rfl (w_loadB1 1 rfl (ev_tmp rfl) rfl Try.isAgg55 rfl) ?_
  refine sq_callG [] rfl rfl rfl rfl Try.call102 rfl (l1Own_own _ (by first | assumption | omega)) (evl_cons (ev_tmp rfl) evl_nil) rfl ?_
  intro x8 ok8
  refine sq_fact 0 rfl fun one_x8 => ?_
  refine sq_plain rfl rfl rfl (w_build (places := #[(0, 1), (1, 1)]) rfl Try.underlying74 Try.zeroValue74 (fun w => by kernel_rfl) rfl (bp_cons (ev_tmp rfl) (as_is one_x8) bp_nil) rfl) ?_
  refine sq_alloc rfl rfl rfl rfl Try.zeroValue74 rfl ?_
  intro b3
  refine sq_storeB0 0 rfl rfl rfl (ev_tmp rfl) (ev_tmp rfl) (as_agg _) rfl Try.sizeOf74 rfl ?_
  refine sq_nil ?_
  refine awp_seq ?_
  refine awp_seq ?_
  refine awp_region ?_
  refine sq_plain rfl rfl rfl (w_fldBn 0 rfl Try.underlying74 rfl Try.sizeOf72 (ev_tmp rfl) rfl) ?_
  refine sq_plain rfl rfl rfl (w_loadB1 3 rfl (ev_tmp rfl) rfl Try.isAgg72 rfl) ?_
  refine sq_plain rfl rfl rfl (w_llen rfl Try.underlying72 (ev_tmp rfl)) ?_
  refine sq_plain rfl rfl rfl (w_move rfl ev_ci) ?_
  refine sq_nil ?_
  refine awp_block ?_
  refine awp_nilown 57 3 ?_
  refine AWP.le (le_pick [1, 0] rfl) ?_
  refine awp_loop_i3 [(2, _), (3, _), (11, _), (12, _)] [] (fun (i : Nat) (v : Value) (xs : List (Value × Value)) => i ≤ a.Maps.length ∧ xs.length = i) (fun (i : Nat) (v : Value) (xs : List (Value × Value)) => [.box b3 74 [AV.is v, AV.is x8], .arr v 57 3 (nrows TPlaces.ocs (a.Maps.take i) xs), .arr x8 3 1 (a.Knows.map (fun x => [AV.int x])), .box b2 74 [AV.nils, AV.nils], .box b1 74 a.cs] ++ (nin TPlaces.ow (a.Maps.take i) xs)) (fun (i : Nat) (v : Value) (xs : List (Value × Value)) => [(13, AV.int i)]) (fun (i : Nat) (v : Value) (xs : List (Value × Value)) => a.Maps.length - i) (0) (Value.slice none 0 0) ([]) ?_ (le_eq (by rfl) ⟨rfl, rfl, rfl, rfl, rfl, trivial⟩) ?_
  · exact ⟨Nat.zero_le _, rfl⟩
  intro i v xs hinv
  refine awp_own (List.append_nil _) ?_
  refine awp_seq ?_
  refine awp_region ?_
  refine sq_plain rfl rfl rfl (w_lss rfl (ev_tmp rfl) (ev_tmp rfl)) ?_
  refine sq_nil ?_
  refine awp_seq ?_
  refine awp_cond (ev_tmp rfl) ?_ ?_
  · intro h14
    have k14 := of_decide_eq_true h14; try simp only [List.length_map] at k14
    have hlt : i < a.Maps.length := by omega
    obtain ⟨x, hx⟩ := get_some hlt
    have hsx := map_size hs hx
    refine awp_skip ?_
    refine awp_seq ?_
    refine awp_block ?_
    refine awp_seq ?_
    refine awp_region ?_
    refine sq_plain rfl rfl rfl (w_idxm rfl Try.underlying72 Try.sizeOf57 (ev_tmp rfl) (ev_tmp rfl) hx (by first | omega | ((try simp only [List.length_map, List.length_take, List.length_cons, List.length_nil, chunks_len, szR] at *); omega) | (have hc2 := hc; simp only [Bool.and_eq_true, Bool.or_eq_true, Bool.or_eq_false_iff, Bool.and_eq_false_iff, Bool.not_eq_true', Bool.not_eq_false', decide_eq_true_eq, decide_eq_false_iff_not, beq_iff_eq, bne_iff_ne, List.length_map, List.length_take] at hc2; omega))) ?_
    refine sq_plain rfl rfl rfl (w_loadE rfl (ev_tmp rfl) Try.isAgg57 Try.sizeOf57) ?_
    refine sq_alloc rfl rfl rfl rfl Try.zeroValue57 rfl ?_
    intro b5
    refine sq_storeB0 0 rfl rfl rfl (ev_tmp rfl) (ev_tmp rfl) (as_agg _) rfl Try.sizeOf57 rfl ?_
    refine sq_nil ?_
    refine AWP.le (le_pick [0, 0] rfl) ?_
    refine awp_region_mix _ [(0, false), (1, false), (2, false), (3, true), (4, false), (5, true)] (by kernel_rfl) (by kernel_rfl) rfl (invx_take 2) ?_
    refine bc_plain rfl rfl rfl (fun ext => w_fldBn 0 rfl Try.underlying74 rfl Try.sizeOf72 (ev_tmp rfl) rfl) ?_
    refine bc_plain rfl rfl rfl (fun ext => w_loadB1 1 rfl (ev_tmp rfl) rfl Try.isAgg72 rfl) ?_
    refine bc_plain rfl rfl rfl (fun ext => w_loadA 0 rfl (ev_tmp rfl) rfl Try.isAgg57 Try.sizeOf57 rfl) ?_
    refine bc_eff rfl rfl rfl (opE_mid 6 (opE_call [] rfl Try.call108 rfl (l20Own_own _ (by first | assumption | omega)) (evl_cons (ev_tmp rfl) evl_nil) rfl)) (fun a _ => (by first | exact invx_mk rfl | exact invx_mk (List.append_assoc _ _ _) | exact invx_all)) ?_
    intro x20 ok20
    refine bc_plain rfl rfl rfl (fun ext => w_bslice rfl Try.underlying72 Try.sizeOf57 Try.zeroValue57 rfl rfl rfl rfl (bp_cons (ev_tmp rfl) (as_agg _) bp_nil) rfl rfl) ?_
    refine bc_eff rfl rfl rfl (opE_append (by' := 56) 2 rfl Try.underlying72 Try.type57 rfl rfl rfl rfl rfl rfl (ev_tmp rfl) (ev_tmp rfl) rfl (by rw [nrows_len (by rw [hinv.2, List.length_take]; omega), chunks_len, List.length_take]; omega)) (fun a _ => (by first | exact invx_mk rfl | exact invx_mk (List.append_assoc _ _ _) | exact invx_all)) ?_
    intro v22_1 _
    refine bc_nil ?_
    refine sq_plain rfl rfl rfl (w_fldBn 0 rfl Try.underlying74 rfl Try.sizeOf72 (ev_tmp rfl) rfl) ?_
    refine sq_fact 2 rfl fun one_v22_1 => ?_
    refine sq_storeB1 1 rfl rfl rfl (ev_tmp rfl) (ev_tmp rfl) (as_is one_v22_1) rfl Try.sizeOf72 rfl ?_
    refine sq_nil ?_
    refine awp_own (by first | (simp only [TPlaces.ow, pick, List.eraseIdx_cons_zero, List.eraseIdx_cons_succ, List.set_cons_zero, List.set_cons_succ, List.cons_append, List.nil_append, List.getElem?_cons_zero, List.getElem?_cons_succ, List.append_nil, List.take_succ_cons, List.take_zero, List.drop_succ_cons, List.drop_zero]; exact rfl) | exact rfl) ?_
    refine AWP.le (le_pick [0, 0, 0, 0, 0, 0, 0, 0] rfl) ?_
    refine AWP.le (le_tail 6 (t := nin TPlaces.ow (a.Maps.take (i + 1)) (xs ++ [x20])) (nin_step (ow := TPlaces.ow) (x := x20) hx hinv.2)) ?_
    refine awp_region ?_
    refine sq_plain rfl rfl rfl (w_addi rfl (ev_tmp rfl) ev_ci (by first | omega | ((try simp only [List.length_map, List.length_take, List.length_cons, List.length_nil, chunks_len, szR] at *); omega) | (have hc2 := hc; simp only [Bool.and_eq_true, Bool.or_eq_true, Bool.or_eq_false_iff, Bool.and_eq_false_iff, Bool.not_eq_true', Bool.not_eq_false', decide_eq_true_eq, decide_eq_false_iff_not, beq_iff_eq, bne_iff_ne, List.length_map, List.length_take] at hc2; omega))) ?_
    refine sq_plain rfl rfl rfl (w_move rfl (ev_tmp rfl)) ?_
    refine sq_nil ?_
    refine round_end3 i v xs (i + 1) (v22_1) (xs ++ [x20]) ?_ ?_ (le_dropeq 1 (Eq.trans (by exact congrArg (fun z => Own.box _ _ _ :: Own.arr _ _ _ z :: _) (nrows_step hx hinv.2)) (List.append_nil _).symm) ⟨rfl, rfl, rfl, rfl, rfl, trivial⟩)
    · exact ⟨by omega, by rw [List.length_append, hinv.2]; rfl⟩
    · omega
  · intro h14
    have k14 := of_decide_eq_false h14; try simp only [List.length_map] at k14
    have hge : i = a.Maps.length := by omega
    have hxs := hinv.2.trans hge
    rw [show a.Maps.take i = a.Maps from List.take_of_length_le (by omega)]
    refine awp_exit ?_
    refine awp_seq ?_
    refine awp_region ?_
    refine sq_plain rfl rfl rfl (w_loadA 0 rfl (ev_tmp rfl) rfl Try.isAgg74 Try.sizeOf74 rfl) ?_
    refine sq_storeB0 3 rfl rfl rfl (ev_tmp rfl) (ev_tmp rfl) (as_agg _) rfl Try.sizeOf74 rfl ?_
    refine sq_nil ?_
    refine awp_ret ?_
    exact retGT [1, 1] 3 (nin TPlaces.ow a.Maps xs) [] (v, x8, xs) (hxs) rfl (show List.Perm (nin TPlaces.ow a.Maps xs) ((nin TPlaces.ow a.Maps xs) ++ []) from perm_nil) (by rfl) (resR rfl (rv_cell (ys := _) 3 rfl rfl Try.isAgg74 Try.sizeOf74 rfl))
theorem flat1 {α β : Type} (f : α → β) : ∀ (l : List α), (l.map fun x => [f x]).flatten = l.map f
  | [] => rfl
  | x :: l => by simp only [List.map_cons, List.flatten_cons, flat1 f l]; rfl
theorem l1Most_spec (a b : Int) : FSpec Try.prog 131 [AV.int a, AV.int b] (AV.int (mx a b)) := by
  refine spec_of_awp Try.func131 rfl Try.ntmps131 rfl ?_
  refine awp_seq ?_
  refine awp_region ?_
  refine sq_plain rfl rfl rfl (w_assign rfl ev_ci) ?_
  refine sq_nil ?_
  refine awp_seq ?_
  refine awp_seq ?_
  refine awp_region ?_
  refine sq_plain rfl rfl rfl (w_move rfl (ev_tmp rfl)) ?_
  refine sq_plain rfl rfl rfl (w_move rfl (ev_tmp rfl)) ?_
  refine sq_plain rfl rfl rfl (w_gtr rfl (ev_tmp rfl) (ev_tmp rfl)) ?_
  refine sq_nil ?_
  refine awp_cond (ev_tmp rfl) ?_ ?_
  · intro h7
    have k7 := of_decide_eq_true h7; try simp only [List.length_map] at k7
    refine awp_seq ?_
    refine awp_region ?_
    refine sq_plain rfl rfl rfl (w_move rfl (ev_tmp rfl)) ?_
    refine sq_plain rfl rfl rfl (w_assign rfl (ev_tmp rfl)) ?_
    refine sq_nil ?_
    refine awp_ret ?_
    exact retR rfl (rv_tmp' rfl (by exact congrArg AV.int (by unfold mx; split <;> omega)))
  · intro h7
    have k7 := of_decide_eq_false h7; try simp only [List.length_map] at k7
    refine awp_skip ?_
    refine awp_seq ?_
    refine awp_region ?_
    refine sq_plain rfl rfl rfl (w_move rfl (ev_tmp rfl)) ?_
    refine sq_plain rfl rfl rfl (w_assign rfl (ev_tmp rfl)) ?_
    refine sq_nil ?_
    refine awp_ret ?_
    exact retR rfl (rv_tmp' rfl (by exact congrArg AV.int (by unfold mx; split <;> omega)))
theorem tellGroup_own (a : TAtlas) (g t : Int) (hs : a.size ≤ 1048576) : GSpec Try.prog 50 [AV.agg a.cs, AV.int g, AV.int t] [] (fun x : Value × Value × List (Value × Value) => x.2.2.length = (tellGroup a g t).1.Maps.length) (fun x => TAtlas.ow (tellGroup a g t).1 x) (fun x => AV.tup [AV.agg (TAtlas.ocs (tellGroup a g t).1 x), AV.bool (tellGroup a g t).2]) := by
  have hml : a.Maps.length ≤ 4194304 := Nat.le_trans sizeL_len (show sizeL TPlaces.size a.Maps ≤ 4194304 by unfold TAtlas.size at hs; omega)
  obtain ⟨y, hy⟩ := get_any a.Knows g.toNat
  refine gspec_of_awp Try.func50 rfl Try.ntmps50 rfl ?_
  refine awp_seq ?_
  refine awp_region ?_
  refine sq_box rfl rfl rfl rfl (ev_tmp rfl) ?_
  intro b3
  refine sq_alloc rfl rfl rfl rfl Try.zeroValue74 rfl ?_
  intro b6
  refine sq_plain rfl rfl rfl (w_assign rfl ev_cb) ?_
  refine sq_nil ?_
  refine awp_seq ?_
  refine awp_seq ?_
  refine awp_region ?_
  refine sq_plain rfl rfl rfl (w_loadA 1 rfl (ev_tmp rfl) rfl Try.isAgg74 Try.sizeOf74 rfl) ?_
  refine sq_plain rfl rfl rfl (w_call rfl Try.call44 rfl (goodAtlas_spec _ (by first | assumption | omega)) (evl_cons (ev_tmp rfl) evl_nil)) ?_
  refine sq_plain rfl rfl rfl (w_not rfl (ev_tmp rfl)) ?_
  refine sq_plain rfl rfl rfl (w_move rfl (ev_tmp rfl)) ?_
  refine sq_grd rfl rfl (guard_f rfl rfl rfl) (fun hc => w_move rfl (ev_tmp rfl)) ?_
  refine sq_grd rfl rfl (guard_f rfl rfl rfl) (fun hc => w_call rfl Try.call106 rfl (isGroup_spec _) (evl_cons (ev_whn rfl hc) evl_nil)) ?_
  refine sq_grd rfl rfl (guard_f rfl rfl rfl) (fun hc => w_not rfl (ev_whn rfl hc)) ?_
  refine sq_plain rfl rfl rfl (w_or rfl (ev_tmp rfl) (evif_w rfl)) ?_
  refine sq_plain rfl rfl rfl (w_move rfl (ev_tmp rfl)) ?_
  refine sq_grd rfl rfl (guard_f rfl rfl rfl) (fun hc => w_move rfl (ev_tmp rfl)) ?_
  refine sq_grd rfl rfl (guard_f rfl rfl rfl) (fun hc => w_fldBn 0 rfl Try.underlying74 rfl Try.sizeOf72 (ev_tmp rfl) rfl) ?_
  refine sq_grd rfl rfl (guard_f rfl rfl rfl) (fun hc => w_loadB1 1 rfl (ev_whn rfl hc) rfl Try.isAgg72 rfl) ?_
  refine sq_grd rfl rfl (guard_f rfl rfl rfl) (fun hc => w_llen rfl Try.underlying72 (ev_whn rfl hc)) ?_
  refine sq_grd rfl rfl (guard_f rfl rfl rfl) (fun hc => w_subi rfl (ev_whn rfl hc) ev_ci (by first | omega | ((try simp only [List.length_map, List.length_take, List.length_cons, List.length_nil, chunks_len, szR] at *); omega) | (have hc2 := hc; simp only [Bool.and_eq_true, Bool.or_eq_true, Bool.or_eq_false_iff, Bool.and_eq_false_iff, Bool.not_eq_true', Bool.not_eq_false', decide_eq_true_eq, decide_eq_false_iff_not, beq_iff_eq, bne_iff_ne, List.length_map, List.length_take] at hc2; omega))) ?_
  refine sq_grd rfl rfl (guard_f rfl rfl rfl) (fun hc => w_call rfl Try.call113 rfl (within_spec _ _ _) (evl_cons (ev_whn rfl hc) (evl_cons ev_ci (evl_cons (ev_whn rfl hc) evl_nil)))) ?_
  refine sq_grd rfl rfl (guard_f rfl rfl rfl) (fun hc => w_not rfl (ev_whn rfl hc)) ?_
  refine sq_plain rfl rfl rfl (w_or rfl (ev_tmp rfl) (evif_w rfl)) ?_
  refine sq_nil ?_
  refine awp_cond (ev_tmp rfl) ?_ ?_
  · intro h25
    have he : tellGroup a g t = (⟨[], []⟩, false) := by unfold tellGroup; rw [if_pos (by simpa only [List.length_map] using h25)]
    rw [he]
    refine awp_seq ?_
    refine awp_region ?_
    refine sq_plain rfl rfl rfl (w_build (places := #[(0, 1), (1, 1)]) rfl Try.underlying74 Try.zeroValue74 (fun w => by kernel_rfl) rfl bp_nil rfl) ?_
    refine sq_storeB0 0 rfl rfl rfl (ev_tmp rfl) (ev_tmp rfl) (as_agg _) rfl Try.sizeOf74 rfl ?_
    refine sq_plain rfl rfl rfl (w_assign rfl ev_cb) ?_
    refine sq_nil ?_
    refine awp_ret ?_
    refine retG_nil 57 3 ?_
    refine retG_nil 3 1 ?_
    first | exact retG [1, 0] ((Value.slice none 0 0), (Value.slice none 0 0), []) (rfl) rfl (by first | rfl | exact congrArg (fun z => Own.arr _ _ _ _ :: Own.arr _ _ _ z :: _) List.map_set) (resN rfl (by decide) (rv_cons (rv_cell (ys := _) 2 rfl rfl Try.isAgg74 Try.sizeOf74 rfl) (rv_cons (rv_tmp' rfl (by rfl)) rv_nil))) | exact retG [1, 0] ((Value.slice none 0 0), (Value.slice none 0 0), x28.2.2) (ok28) rfl (by first | rfl | exact congrArg (fun z => Own.arr _ _ _ _ :: Own.arr _ _ _ z :: _) List.map_set) (resN rfl (by decide) (rv_cons (rv_cell (ys := _) 2 rfl rfl Try.isAgg74 Try.sizeOf74 rfl) (rv_cons (rv_tmp' rfl (by rfl)) rv_nil)))
  · intro h25
    have h25' := h25
    simp only [List.length_map, Bool.or_eq_false_iff, Bool.not_eq_false'] at h25'
    have hg := atlas_facts h25'.1.1
    have hgr := h25'.1.2
    unfold isGroup within at hgr
    simp only [Bool.and_eq_true, decide_eq_true_eq] at hgr
    have hyy := hy (by omega)
    have hyk : (a.Knows.map (fun x => [AV.int x])).flatten[g.toNat * 1]? = some (AV.int y) := by rw [Nat.mul_one, flat1 (fun x => AV.int x), List.getElem?_map, hyy]; rfl
    have he : tellGroup a g t = (⟨a.Maps, a.Knows.set g.toNat (mx y t)⟩, true) := by unfold tellGroup; rw [if_neg (by simp only [List.length_map] at h25; rw [h25]; decide), List.getD_eq_getElem?_getD, hyy]; rfl
    rw [he]
    refine awp_skip ?_
    refine awp_seq ?_
    refine awp_region ?_
    refine sq_plain rfl rfl rfl (w_loadA 1 rfl (ev_tmp rfl) rfl Try.isAgg74 Try.sizeOf74 rfl) ?_
    refine sq_callGT [] 2 2 ([]) ([]) (fun zz => nin TPlaces.ow a.Maps zz.2.2) rfl rfl rfl rfl Try.call129 rfl rfl (show List.Perm ([]) (([]) ++ ([])) from List.Perm.refl _) (copyAtlas_own a hs) (evl_cons (ev_tmp rfl) evl_nil) (fun a => perm_lin) ?_
    intro x28 ok28
    refine sq_alloc rfl rfl rfl rfl Try.zeroValue74 rfl ?_
    intro b8
    refine sq_storeB0 0 rfl rfl rfl (ev_tmp rfl) (ev_tmp rfl) (as_agg _) rfl Try.sizeOf74 rfl ?_
    refine sq_nil ?_
    refine awp_seq ?_
    refine awp_region_tail 11 (by kernel_rfl) (by kernel_rfl) rfl ?_
    refine ch_plain rfl rfl (w_fldBn 1 rfl Try.underlying74 rfl Try.sizeOf55 (ev_tmp rfl) rfl) ?_
    refine ch_plain rfl rfl (w_loadB1 0 rfl (ev_tmp rfl) rfl Try.isAgg55 rfl) ?_
    refine ch_plain rfl rfl (w_move rfl (ev_tmp rfl)) ?_
    refine ch_plain rfl rfl (w_fldBn 1 rfl Try.underlying74 rfl Try.sizeOf55 (ev_tmp rfl) rfl) ?_
    refine ch_plain rfl rfl (w_loadB1 0 rfl (ev_tmp rfl) rfl Try.isAgg55 rfl) ?_
    refine ch_plain rfl rfl (w_move rfl (ev_tmp rfl)) ?_
    refine ch_plain rfl rfl (w_aidx 2 rfl Try.underlying55 Try.sizeOf3 (ev_tmp rfl) rfl (ev_tmp rfl) (by omega) (by simp only [List.length_map]; omega)) ?_
    refine ch_plain rfl rfl (w_loadX1 2 rfl (ev_tmp rfl) rfl Try.isAgg3 (hyk)) ?_
    refine ch_plain rfl rfl (w_move rfl (ev_tmp rfl)) ?_
    refine ch_plain rfl rfl (w_max rfl (ev_tmp rfl) (ev_tmp rfl)) ?_
    refine ch_plain rfl rfl (w_aidx 2 rfl Try.underlying55 Try.sizeOf3 (ev_tmp rfl) rfl (ev_tmp rfl) (by omega) (by simp only [List.length_map]; omega)) ?_
    refine ch_nil ?_
    refine sq_storeA 2 rfl rfl rfl (ev_tmp rfl) (ev_tmp rfl) (as_ik _ _) rfl Try.sizeOf3 rfl (by simp only [List.length_map]; omega) ?_
    refine sq_nil ?_
    refine awp_seq ?_
    refine awp_region ?_
    refine sq_plain rfl rfl rfl (w_loadA 0 rfl (ev_tmp rfl) rfl Try.isAgg74 Try.sizeOf74 rfl) ?_
    refine sq_storeB0 3 rfl rfl rfl (ev_tmp rfl) (ev_tmp rfl) (as_agg _) rfl Try.sizeOf74 rfl ?_
    refine sq_plain rfl rfl rfl (w_assign rfl ev_cb) ?_
    refine sq_nil ?_
    refine awp_ret ?_
    first | exact retGT [1, 1] 3 (nin TPlaces.ow a.Maps x28.2.2) [] (x28.1, x28.2.1, []) (rfl) rfl (show List.Perm (nin TPlaces.ow a.Maps x28.2.2) ((nin TPlaces.ow a.Maps x28.2.2) ++ []) from perm_nil) (by first | rfl | exact congrArg (fun z => Own.arr _ _ _ _ :: Own.arr _ _ _ z :: _) List.map_set) (resN rfl (by decide) (rv_cons (rv_cell (ys := _) 3 rfl rfl Try.isAgg74 Try.sizeOf74 rfl) (rv_cons (rv_tmp' rfl (by rfl)) rv_nil))) | exact retGT [1, 1] 3 (nin TPlaces.ow a.Maps x28.2.2) [] (x28.1, x28.2.1, x28.2.2) (ok28) rfl (show List.Perm (nin TPlaces.ow a.Maps x28.2.2) ((nin TPlaces.ow a.Maps x28.2.2) ++ []) from perm_nil) (by first | rfl | exact congrArg (fun z => Own.arr _ _ _ _ :: Own.arr _ _ _ z :: _) List.map_set) (resN rfl (by decide) (rv_cons (rv_cell (ys := _) 3 rfl rfl Try.isAgg74 Try.sizeOf74 rfl) (rv_cons (rv_tmp' rfl (by rfl)) rv_nil)))
theorem tellGroupS_own (a : TAtlas) (g t : Int) (hs : a.size ≤ 1048576) : GSpec Try.prog 51 [AV.agg a.cs, AV.int g, AV.int t] [] (fun x : Value × Value × List (Value × Value) => x.2.2.length = (tellGroupS a g t).1.Maps.length) (fun x => TAtlas.ow (tellGroupS a g t).1 x) (fun x => AV.tup [AV.agg (TAtlas.ocs (tellGroupS a g t).1 x), AV.bool (tellGroupS a g t).2]) := by
  have hml : a.Maps.length ≤ 4194304 := Nat.le_trans sizeL_len (show sizeL TPlaces.size a.Maps ≤ 4194304 by unfold TAtlas.size at hs; omega)
  obtain ⟨y, hy⟩ := get_any a.Knows g.toNat
  refine gspec_of_awp Try.func51 rfl Try.ntmps51 rfl ?_
  refine awp_seq ?_
  refine awp_region ?_
  refine sq_box rfl rfl rfl rfl (ev_tmp rfl) ?_
  intro b3
  refine sq_alloc rfl rfl rfl rfl Try.zeroValue74 rfl ?_
  intro b6
  refine sq_plain rfl rfl rfl (w_assign rfl ev_cb) ?_
  refine sq_nil ?_
  refine awp_seq ?_
  refine awp_seq ?_
  refine awp_region ?_
  refine sq_plain rfl rfl rfl (w_loadA 1 rfl (ev_tmp rfl) rfl Try.isAgg74 Try.sizeOf74 rfl) ?_
  refine sq_plain rfl rfl rfl (w_call rfl Try.call45 rfl (goodAtlasS_spec _ (by first | assumption | omega)) (evl_cons (ev_tmp rfl) evl_nil)) ?_
  refine sq_plain rfl rfl rfl (w_not rfl (ev_tmp rfl)) ?_
  refine sq_plain rfl rfl rfl (w_move rfl (ev_tmp rfl)) ?_
  refine sq_grd rfl rfl (guard_f rfl rfl rfl) (fun hc => w_move rfl (ev_tmp rfl)) ?_
  refine sq_grd rfl rfl (guard_f rfl rfl rfl) (fun hc => w_call rfl Try.call107 rfl (l1In_spec _ _ _) (evl_cons (ev_whn rfl hc) (evl_cons ev_ci (evl_cons ev_ci evl_nil)))) ?_
  refine sq_grd rfl rfl (guard_f rfl rfl rfl) (fun hc => w_not rfl (ev_whn rfl hc)) ?_
  refine sq_plain rfl rfl rfl (w_or rfl (ev_tmp rfl) (evif_w rfl)) ?_
  refine sq_plain rfl rfl rfl (w_move rfl (ev_tmp rfl)) ?_
  refine sq_grd rfl rfl (guard_f rfl rfl rfl) (fun hc => w_move rfl (ev_tmp rfl)) ?_
  refine sq_grd rfl rfl (guard_f rfl rfl rfl) (fun hc => w_fldBn 0 rfl Try.underlying74 rfl Try.sizeOf72 (ev_tmp rfl) rfl) ?_
  refine sq_grd rfl rfl (guard_f rfl rfl rfl) (fun hc => w_loadB1 1 rfl (ev_whn rfl hc) rfl Try.isAgg72 rfl) ?_
  refine sq_grd rfl rfl (guard_f rfl rfl rfl) (fun hc => w_llen rfl Try.underlying72 (ev_whn rfl hc)) ?_
  refine sq_grd rfl rfl (guard_f rfl rfl rfl) (fun hc => w_subi rfl (ev_whn rfl hc) ev_ci (by first | omega | ((try simp only [List.length_map, List.length_take, List.length_cons, List.length_nil, chunks_len, szR] at *); omega) | (have hc2 := hc; simp only [Bool.and_eq_true, Bool.or_eq_true, Bool.or_eq_false_iff, Bool.and_eq_false_iff, Bool.not_eq_true', Bool.not_eq_false', decide_eq_true_eq, decide_eq_false_iff_not, beq_iff_eq, bne_iff_ne, List.length_map, List.length_take] at hc2; omega))) ?_
  refine sq_grd rfl rfl (guard_f rfl rfl rfl) (fun hc => w_call rfl Try.call107 rfl (l1In_spec _ _ _) (evl_cons (ev_whn rfl hc) (evl_cons ev_ci (evl_cons (ev_whn rfl hc) evl_nil)))) ?_
  refine sq_grd rfl rfl (guard_f rfl rfl rfl) (fun hc => w_not rfl (ev_whn rfl hc)) ?_
  refine sq_plain rfl rfl rfl (w_or rfl (ev_tmp rfl) (evif_w rfl)) ?_
  refine sq_nil ?_
  refine awp_cond (ev_tmp rfl) ?_ ?_
  · intro h25
    have he : tellGroupS a g t = (⟨[], []⟩, false) := by unfold tellGroupS; rw [if_pos (by simpa only [List.length_map] using h25)]
    rw [he]
    refine awp_seq ?_
    refine awp_region ?_
    refine sq_plain rfl rfl rfl (w_build (places := #[(0, 1), (1, 1)]) rfl Try.underlying74 Try.zeroValue74 (fun w => by kernel_rfl) rfl bp_nil rfl) ?_
    refine sq_storeB0 0 rfl rfl rfl (ev_tmp rfl) (ev_tmp rfl) (as_agg _) rfl Try.sizeOf74 rfl ?_
    refine sq_plain rfl rfl rfl (w_assign rfl ev_cb) ?_
    refine sq_nil ?_
    refine awp_ret ?_
    refine retG_nil 57 3 ?_
    refine retG_nil 3 1 ?_
    first | exact retG [1, 0] ((Value.slice none 0 0), (Value.slice none 0 0), []) (rfl) rfl (by first | rfl | exact congrArg (fun z => Own.arr _ _ _ _ :: Own.arr _ _ _ z :: _) List.map_set) (resN rfl (by decide) (rv_cons (rv_cell (ys := _) 2 rfl rfl Try.isAgg74 Try.sizeOf74 rfl) (rv_cons (rv_tmp' rfl (by rfl)) rv_nil))) | exact retG [1, 0] ((Value.slice none 0 0), (Value.slice none 0 0), x28.2.2) (ok28) rfl (by first | rfl | exact congrArg (fun z => Own.arr _ _ _ _ :: Own.arr _ _ _ z :: _) List.map_set) (resN rfl (by decide) (rv_cons (rv_cell (ys := _) 2 rfl rfl Try.isAgg74 Try.sizeOf74 rfl) (rv_cons (rv_tmp' rfl (by rfl)) rv_nil)))
  · intro h25
    have h25' := h25
    simp only [List.length_map, Bool.or_eq_false_iff, Bool.not_eq_false'] at h25'
    have hg := atlas_facts (by rw [goodAtlas_eq]; exact h25'.1.1)
    have hgr := h25'.1.2
    unfold within at hgr
    simp only [Bool.and_eq_true, decide_eq_true_eq] at hgr
    have hyy := hy (by omega)
    have hyk : (a.Knows.map (fun x => [AV.int x])).flatten[g.toNat * 1]? = some (AV.int y) := by rw [Nat.mul_one, flat1 (fun x => AV.int x), List.getElem?_map, hyy]; rfl
    have he : tellGroupS a g t = (⟨a.Maps, a.Knows.set g.toNat (mx y t)⟩, true) := by unfold tellGroupS; rw [if_neg (by simp only [List.length_map] at h25; rw [h25]; decide), List.getD_eq_getElem?_getD, hyy]; rfl
    rw [he]
    refine awp_skip ?_
    refine awp_seq ?_
    refine awp_region ?_
    refine sq_plain rfl rfl rfl (w_loadA 1 rfl (ev_tmp rfl) rfl Try.isAgg74 Try.sizeOf74 rfl) ?_
    refine sq_callGT [] 2 2 ([]) ([]) (fun zz => nin TPlaces.ow a.Maps zz.2.2) rfl rfl rfl rfl Try.call130 rfl rfl (show List.Perm ([]) (([]) ++ ([])) from List.Perm.refl _) (l21Own_own a hs) (evl_cons (ev_tmp rfl) evl_nil) (fun a => perm_lin) ?_
    intro x28 ok28
    refine sq_alloc rfl rfl rfl rfl Try.zeroValue74 rfl ?_
    intro b8
    refine sq_storeB0 0 rfl rfl rfl (ev_tmp rfl) (ev_tmp rfl) (as_agg _) rfl Try.sizeOf74 rfl ?_
    refine sq_nil ?_
    refine awp_seq ?_
    refine awp_region_tail 11 (by kernel_rfl) (by kernel_rfl) rfl ?_
    refine ch_plain rfl rfl (w_fldBn 1 rfl Try.underlying74 rfl Try.sizeOf55 (ev_tmp rfl) rfl) ?_
    refine ch_plain rfl rfl (w_loadB1 0 rfl (ev_tmp rfl) rfl Try.isAgg55 rfl) ?_
    refine ch_plain rfl rfl (w_move rfl (ev_tmp rfl)) ?_
    refine ch_plain rfl rfl (w_fldBn 1 rfl Try.underlying74 rfl Try.sizeOf55 (ev_tmp rfl) rfl) ?_
    refine ch_plain rfl rfl (w_loadB1 0 rfl (ev_tmp rfl) rfl Try.isAgg55 rfl) ?_
    refine ch_plain rfl rfl (w_move rfl (ev_tmp rfl)) ?_
    refine ch_plain rfl rfl (w_aidx 2 rfl Try.underlying55 Try.sizeOf3 (ev_tmp rfl) rfl (ev_tmp rfl) (by omega) (by simp only [List.length_map]; omega)) ?_
    refine ch_plain rfl rfl (w_loadX1 2 rfl (ev_tmp rfl) rfl Try.isAgg3 (hyk)) ?_
    refine ch_plain rfl rfl (w_move rfl (ev_tmp rfl)) ?_
    refine ch_plain rfl rfl (w_call rfl Try.call131 rfl (l1Most_spec _ _) (evl_cons (ev_tmp rfl) (evl_cons (ev_tmp rfl) evl_nil))) ?_
    refine ch_plain rfl rfl (w_aidx 2 rfl Try.underlying55 Try.sizeOf3 (ev_tmp rfl) rfl (ev_tmp rfl) (by omega) (by simp only [List.length_map]; omega)) ?_
    refine ch_nil ?_
    refine sq_storeA 2 rfl rfl rfl (ev_tmp rfl) (ev_tmp rfl) (as_ik _ _) rfl Try.sizeOf3 rfl (by simp only [List.length_map]; omega) ?_
    refine sq_nil ?_
    refine awp_seq ?_
    refine awp_region ?_
    refine sq_plain rfl rfl rfl (w_loadA 0 rfl (ev_tmp rfl) rfl Try.isAgg74 Try.sizeOf74 rfl) ?_
    refine sq_storeB0 3 rfl rfl rfl (ev_tmp rfl) (ev_tmp rfl) (as_agg _) rfl Try.sizeOf74 rfl ?_
    refine sq_plain rfl rfl rfl (w_assign rfl ev_cb) ?_
    refine sq_nil ?_
    refine awp_ret ?_
    first | exact retGT [1, 1] 3 (nin TPlaces.ow a.Maps x28.2.2) [] (x28.1, x28.2.1, []) (rfl) rfl (show List.Perm (nin TPlaces.ow a.Maps x28.2.2) ((nin TPlaces.ow a.Maps x28.2.2) ++ []) from perm_nil) (by first | rfl | exact congrArg (fun z => Own.arr _ _ _ _ :: Own.arr _ _ _ z :: _) List.map_set) (resN rfl (by decide) (rv_cons (rv_cell (ys := _) 3 rfl rfl Try.isAgg74 Try.sizeOf74 rfl) (rv_cons (rv_tmp' rfl (by rfl)) rv_nil))) | exact retGT [1, 1] 3 (nin TPlaces.ow a.Maps x28.2.2) [] (x28.1, x28.2.1, x28.2.2) (ok28) rfl (show List.Perm (nin TPlaces.ow a.Maps x28.2.2) ((nin TPlaces.ow a.Maps x28.2.2) ++ []) from perm_nil) (by first | rfl | exact congrArg (fun z => Own.arr _ _ _ _ :: Own.arr _ _ _ z :: _) List.map_set) (resN rfl (by decide) (rv_cons (rv_cell (ys := _) 3 rfl rfl Try.isAgg74 Try.sizeOf74 rfl) (rv_cons (rv_tmp' rfl (by rfl)) rv_nil)))
theorem tellGroupS_spec (a : TAtlas) (g t : Int) (hs : a.size ≤ 1048576) : FSpec Try.prog 51 [AV.agg a.cs, AV.int g, AV.int t] (AV.tup [AV.agg (tellGroupS a g t).1.cs, AV.bool (tellGroupS a g t).2]) :=
  fspec_of_gspec (tellGroupS_own a g t hs) fun x h => lt_tup (lc_cons (lt_agg (TAtlas.lcM _ x h fun _ ho => ho)) (lc_cons lt_refl lc_nil))
end Go.Proofs.Ytdbmaekdejhobaa
