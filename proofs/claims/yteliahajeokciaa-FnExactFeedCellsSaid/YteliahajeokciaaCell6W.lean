/- Walks: cells taken over, marked and held; the reference's feed into cells. -/
import Derived.Test.YteliahajeokciaaCell5W
import Derived.Test.YteliahajeokciaaTypesW
set_option linter.unusedVariables false
set_option linter.unusedSimpArgs false
set_option maxRecDepth 100000
set_option maxHeartbeats 1000000
namespace Go.Proofs.Yteliahajeokciaa
open Go Go.AV Go.M
attribute [local irreducible] OpW OpA OpS AWP FSpec ESpec GSpec OpE RetOk RetOkG RvDen Le Ev GuardIs SrcIs
theorem toCell_own (a : TCell) (hs : a.size ≤ 1048576) : GSpec Try.prog 177 [AV.agg a.cs] [] (fun _ : Value => True) (fun x => TCell.ow a x) (fun x => AV.agg (TCell.ocs a x)) := by
  unfold TCell.size at hs
  refine gspec_of_awp Try.func177 rfl Try.ntmps177 rfl ?_
  refine awp_seq ?_
  refine awp_region ?_
  refine sq_box rfl rfl rfl rfl (ev_tmp rfl) ?_
  intro b1
  refine sq_alloc rfl rfl rfl rfl Try.zeroValue153 rfl ?_
  intro b2
  refine sq_nil ?_
  refine awp_seq ?_
  refine awp_region ?_
  refine sq_alloc rfl rfl rfl rfl Try.zeroValue153 rfl ?_
  intro b3
  refine sq_nil ?_
  refine awp_seq ?_
  refine awp_region ?_
  refine sq_plain rfl rfl rfl (w_fldBn 0 rfl Try.underlying175 rfl Try.sizeOf9 (ev_tmp rfl) rfl) ?_
  refine sq_plain rfl rfl rfl (w_loadB1 2 rfl (ev_tmp rfl) rfl Try.isAgg9 rfl) ?_
  refine sq_plain rfl rfl rfl (w_fldBn 0 rfl Try.underlying153 rfl Try.sizeOf9 (ev_tmp rfl) rfl) ?_
  refine sq_storeB1 0 rfl rfl rfl (ev_tmp rfl) (ev_tmp rfl) (as_str _) rfl Try.sizeOf9 rfl ?_
  refine sq_nil ?_
  refine awp_seq ?_
  refine awp_region ?_
  refine sq_plain rfl rfl rfl (w_fldBn 1 rfl Try.underlying175 rfl Try.sizeOf173 (ev_tmp rfl) rfl) ?_
  refine sq_plain rfl rfl rfl (w_loadB1 2 rfl (ev_tmp rfl) rfl Try.isAgg173 rfl) ?_
  refine sq_callG [] rfl rfl rfl rfl Try.call248 rfl (toVerS_own _ (by first | assumption | omega)) (evl_cons (ev_tmp rfl) evl_nil) rfl ?_
  intro x9 ok9
  refine sq_plain rfl rfl rfl (w_fldBn 1 rfl Try.underlying153 rfl Try.sizeOf151 (ev_tmp rfl) rfl) ?_
  refine sq_fact 0 rfl fun one_x9 => ?_
  refine sq_storeB1 1 rfl rfl rfl (ev_tmp rfl) (ev_tmp rfl) (as_is one_x9) rfl Try.sizeOf151 rfl ?_
  refine sq_nil ?_
  refine awp_seq ?_
  refine awp_region ?_
  refine sq_plain rfl rfl rfl (w_loadA 1 rfl (ev_tmp rfl) rfl Try.isAgg153 Try.sizeOf153 rfl) ?_
  refine sq_storeB0 2 rfl rfl rfl (ev_tmp rfl) (ev_tmp rfl) (as_agg _) rfl Try.sizeOf153 rfl ?_
  refine sq_nil ?_
  refine awp_ret ?_
  exact retG [0] x9 (trivial) rfl (by rfl) (resR rfl (rv_cell (ys := _) 2 rfl rfl Try.isAgg153 Try.sizeOf153 rfl))
theorem toCellS_own (l : List TCell) (hs : sizeL TCell.size l ≤ 1048576) : GSpec Try.prog 76 [AV.list 2 (l.map TCell.cs)] [] (fun x : Value × List Value => x.2.length = l.length) (fun x => .arr x.1 153 2 (nrows TCell.ocs l x.2) :: nin TCell.ow l x.2) (fun x => AV.is x.1) := by
  have hsl : l.length ≤ 1048576 := Nat.le_trans sizeL_len hs
  refine gspec_of_awp Try.func76 rfl Try.ntmps76 rfl ?_
  refine awp_seq ?_
  refine awp_region ?_
  refine sq_plain rfl rfl rfl (w_assign rfl ev_cnils) ?_
  refine sq_nil ?_
  refine awp_seq ?_
  refine awp_region ?_
  refine sq_plain rfl rfl rfl (w_move rfl (ev_tmp rfl)) ?_
  refine sq_plain rfl rfl rfl (w_llen rfl Try.underlying81 (ev_tmp rfl)) ?_
  refine sq_make (by' := 40) rfl rfl rfl rfl Try.underlying53 Try.type153 rfl rfl rfl rfl rfl rfl (ev_tmp rfl) (ev_tmp rfl) (by simp only [List.length_map]; omega) (by simp only [List.length_map]; omega) ?_
  intro v7
  refine sq_plain rfl rfl rfl (w_assign rfl (ev_tmp rfl)) ?_
  refine sq_nil ?_
  refine awp_seq ?_
  refine awp_seq ?_
  refine awp_region ?_
  refine sq_plain rfl rfl rfl (w_assign rfl ev_ci) ?_
  refine sq_nil ?_
  refine awp_block ?_
  refine awp_loop_i2 [(0, _), (2, _), (3, _)] [] (fun (i : Nat) (xs : List Value) => i ≤ l.length ∧ xs.length = i) (fun (i : Nat) (xs : List Value) => [.arr v7 153 2 (nrows TCell.ocs (l.take i) xs ++ List.replicate (l.length - i) [AV.str [], AV.nils])] ++ (nin TCell.ow (l.take i) xs)) (fun (i : Nat) (xs : List Value) => [(4, AV.int i)]) (fun (i : Nat) (xs : List Value) => l.length - i) (0) ([]) ?_ (le_eq (by simp only [List.length_map]; rfl) ⟨rfl, rfl, rfl, rfl, trivial⟩) ?_
  · exact ⟨Nat.zero_le _, rfl⟩
  intro i xs hinv
  refine awp_own (List.append_nil _) ?_
  refine awp_seq ?_
  refine awp_seq ?_
  refine awp_region ?_
  refine sq_plain rfl rfl rfl (w_move rfl (ev_tmp rfl)) ?_
  refine sq_plain rfl rfl rfl (w_move rfl (ev_tmp rfl)) ?_
  refine sq_plain rfl rfl rfl (w_llen rfl Try.underlying81 (ev_tmp rfl)) ?_
  refine sq_plain rfl rfl rfl (w_lss rfl (ev_tmp rfl) (ev_tmp rfl)) ?_
  refine sq_nil ?_
  refine awp_cond (ev_tmp rfl) ?_ ?_
  · intro h11
    have k11 := of_decide_eq_true h11; try simp only [List.length_map] at k11
    have hlt : i < l.length := by omega
    obtain ⟨x, hx⟩ := get_some hlt
    have hsx : TCell.size x ≤ 1048576 := Nat.le_trans (sizeL_get hx) hs
    refine awp_skip ?_
    refine awp_seq ?_
    refine awp_block ?_
    refine awp_region ?_
    refine sq_plain rfl rfl rfl (w_move rfl (ev_tmp rfl)) ?_
    refine sq_plain rfl rfl rfl (w_move rfl (ev_tmp rfl)) ?_
    refine sq_plain rfl rfl rfl (w_move rfl (ev_tmp rfl)) ?_
    refine sq_plain rfl rfl rfl (w_move rfl (ev_tmp rfl)) ?_
    refine sq_plain rfl rfl rfl (w_idx rfl Try.underlying81 Try.sizeOf175 (ev_tmp rfl) (ev_tmp rfl) (by omega) (by simp only [Int.toNat_natCast, List.getElem?_map, hx, Option.map_some]; try rfl)) ?_
    refine sq_plain rfl rfl rfl (w_loadE rfl (ev_tmp rfl) Try.isAgg175 Try.sizeOf175) ?_
    refine sq_callG [] rfl rfl rfl rfl Try.call177 rfl (toCell_own _ (by assumption)) (evl_cons (ev_tmp rfl) evl_nil) rfl ?_
    intro x20 ok20
    refine sq_plain rfl rfl rfl (w_aidx 1 rfl Try.underlying53 Try.sizeOf153 (ev_tmp rfl) rfl (ev_tmp rfl) (by omega) (by rw [nfill_len hinv.1 hinv.2]; omega)) ?_
    refine sq_storeA 1 rfl rfl rfl (ev_tmp rfl) (ev_tmp rfl) (as_agg _) rfl Try.sizeOf153 rfl (by rw [nfill_len hinv.1 hinv.2]; omega) ?_
    refine sq_nil ?_
    refine AWP.le (le_pick [1, 0] rfl) ?_
    refine AWP.le (le_tail 1 (t := nin TCell.ow (l.take (i + 1)) (xs ++ [x20])) (nin_step (ow := TCell.ow) (x := x20) hx hinv.2)) ?_
    refine awp_region ?_
    refine sq_plain rfl rfl rfl (w_move rfl (ev_tmp rfl)) ?_
    refine sq_plain rfl rfl rfl (w_addi rfl (ev_tmp rfl) ev_ci (by first | omega | ((try simp only [List.length_map, List.length_take, List.length_cons, List.length_nil, chunks_len, szR] at *); omega) | (have hc2 := hc; simp only [Bool.and_eq_true, Bool.or_eq_true, Bool.or_eq_false_iff, Bool.and_eq_false_iff, Bool.not_eq_true', Bool.not_eq_false', decide_eq_true_eq, decide_eq_false_iff_not, beq_iff_eq, bne_iff_ne, List.length_map, List.length_take] at hc2; omega))) ?_
    refine sq_plain rfl rfl rfl (w_assign rfl (ev_tmp rfl)) ?_
    refine sq_nil ?_
    refine round_end2 i xs (i + 1) (xs ++ [x20]) ?_ ?_ (le_eq (Eq.trans (by exact congrArg (fun z => Own.arr _ _ _ z :: _) (nfill_step hx hinv.2)) (List.append_nil _).symm) ⟨rfl, rfl, rfl, rfl, trivial⟩)
    · exact ⟨by omega, by rw [List.length_append, hinv.2]; rfl⟩
    · omega
  · intro h11
    have k11 := of_decide_eq_false h11; try simp only [List.length_map] at k11
    have hge : i = l.length := by omega
    have hxs := hinv.2.trans hge
    rw [show l.take i = l from List.take_of_length_le (by omega), show l.length - i = 0 by omega, List.replicate_zero, List.append_nil]
    refine awp_exit ?_
    refine awp_seq ?_
    refine awp_region ?_
    refine sq_plain rfl rfl rfl (w_move rfl (ev_tmp rfl)) ?_
    refine sq_plain rfl rfl rfl (w_assign rfl (ev_tmp rfl)) ?_
    refine sq_nil ?_
    refine awp_ret ?_
    exact retGT [0] 0 (nin TCell.ow l xs) [] (v7, xs) (hxs) rfl (show List.Perm (nin TCell.ow l xs) ((nin TCell.ow l xs) ++ []) from perm_nil) (by rfl) (resR rfl (rv_tmp' rfl (by first | rfl | (refine congrArg AV.bool ?_; simp_all; done))))
theorem markCellS_spec (v : Value) (l : List TCell) (xs : List Value) (k : Int) (hl : xs.length = l.length) (h : 0 ≤ k ∧ countN TCell.markEN l k ≤ 4611686018427387904) : GSpec Try.prog 81 [AV.is v, AV.int k] (.arr v 153 2 (nrows TCell.ocs l xs) :: nin TCell.ow l xs) (fun _ : Unit => True) (fun _ => .arr v 153 2 (nrows TCell.ocs (marksN TCell.markE TCell.markEN l k) xs) :: nin TCell.ow (marksN TCell.markE TCell.markEN l k) xs) (fun _ => AV.int (countN TCell.markEN l k)) := by
  have hll := countN_len TCell.markEN_le1 l k
  refine gspec_of_awp Try.func81 rfl Try.ntmps81 rfl ?_
  refine awp_seq ?_
  refine awp_region ?_
  refine sq_plain rfl rfl rfl (w_assign rfl ev_ci) ?_
  refine sq_nil ?_
  refine awp_seq ?_
  refine awp_seq ?_
  refine awp_region ?_
  refine sq_plain rfl rfl rfl (w_assign rfl ev_ci) ?_
  refine sq_nil ?_
  refine awp_block ?_
  refine awp_loop_i2 [(0, _), (4, _)] [] (fun (i : Nat) (c : Int) => i ≤ l.length ∧ c = countN TCell.markEN (l.take i) k) (fun (i : Nat) (c : Int) => [.arr v 153 2 (nrows TCell.ocs (midN TCell.markE TCell.markEN l k i) xs)] ++ (nin TCell.ow (midN TCell.markE TCell.markEN l k i) xs)) (fun (i : Nat) (c : Int) => [(1, AV.int c), (5, AV.int i)]) (fun (i : Nat) (c : Int) => l.length - i) (0) (k) ?_ (le_eq (by rw [midN_zero, List.append_nil]; rfl) ⟨rfl, rfl, rfl, rfl, trivial⟩) ?_
  · exact ⟨Nat.zero_le _, rfl⟩
  intro i c hinv
  refine awp_own (List.append_nil _) ?_
  refine awp_seq ?_
  refine awp_seq ?_
  refine awp_region ?_
  refine sq_plain rfl rfl rfl (w_move rfl (ev_tmp rfl)) ?_
  refine sq_plain rfl rfl rfl (w_move rfl (ev_tmp rfl)) ?_
  refine sq_plain rfl rfl rfl (w_alen 0 rfl Try.underlying53 (ev_tmp rfl) rfl) ?_
  refine sq_plain rfl rfl rfl (w_lss rfl (ev_tmp rfl) (ev_tmp rfl)) ?_
  refine sq_nil ?_
  refine awp_cond (ev_tmp rfl) ?_ ?_
  · intro h9
    have k9 := of_decide_eq_true h9; try simp only [List.length_map] at k9
    simp only [nrows_len (hl.trans (midN_len hinv.1).symm), midN_len hinv.1] at k9
    have hlt : i < l.length := by omega
    obtain ⟨p0, hq⟩ := get_some hlt
    have hp := midN_get (mk := TCell.markE) (mn := TCell.markEN) (k := k) hq
    obtain ⟨x, hx⟩ := get_some (show i < xs.length by omega)
    have hstep := midN_step (mk := TCell.markE) (mn := TCell.markEN) (k := k) hq
    rw [← hinv.2] at hstep
    have hct := countN_take TCell.markEN_le l (i + 1) k
    have hc0 := countN_take TCell.markEN_le l i k
    rw [countN_snoc hq, ← hinv.2] at hct
    rw [← hinv.2] at hc0
    have hce : TCell.markEN p0 c = c + 1 + 3 * p0.Vers.length := rfl
    rw [nrows_split hp hx]
    refine awp_skip ?_
    refine awp_seq ?_
    refine awp_block ?_
    refine awp_seq ?_
    refine AWP.le (le_tail 1 (t := (TCell.ow p0 x) ++ (nin TCell.ow ((midN TCell.markE TCell.markEN l k i).eraseIdx i) (xs.eraseIdx i))) (nin_get (ow := TCell.ow) hp hx)) ?_
    refine awp_region ?_
    refine sq_plain rfl rfl rfl (w_move rfl (ev_tmp rfl)) ?_
    refine sq_plain rfl rfl rfl (w_move rfl (ev_tmp rfl)) ?_
    refine sq_plain rfl rfl rfl (w_move rfl (ev_tmp rfl)) ?_
    refine sq_plain rfl rfl rfl (w_call rfl Try.call183 rfl (markText_spec _ (by omega)) (evl_cons (ev_tmp rfl) evl_nil)) ?_
    refine sq_plain rfl rfl rfl (w_aidx 0 rfl Try.underlying53 Try.sizeOf153 (ev_tmp rfl) rfl (ev_tmp rfl) (by omega) (by rw [nrows_jlen hp hx (hl.trans (midN_len hinv.1).symm), midN_len hinv.1]; omega)) ?_
    refine sq_plain rfl rfl rfl (w_fldX 0 rfl Try.underlying153 rfl Try.sizeOf9 (ev_tmp rfl) rfl rfl (app_get (nrows_tlen hp hx))) ?_
    refine sq_storeXA 0 rfl rfl rfl (ev_tmp rfl) (ev_tmp rfl) (as_str _) rfl Try.sizeOf9 (nrows_tlen hp hx) rfl ?_
    refine sq_nil ?_
    refine awp_seq ?_
    refine awp_region ?_
    refine sq_plain rfl rfl rfl (w_move rfl (ev_tmp rfl)) ?_
    refine sq_plain rfl rfl rfl (w_addi rfl (ev_tmp rfl) ev_ci (by first | omega | ((try simp only [List.length_map, List.length_take, List.length_cons, List.length_nil, chunks_len, szR] at *); omega) | (have hc2 := hc; simp only [Bool.and_eq_true, Bool.or_eq_true, Bool.or_eq_false_iff, Bool.and_eq_false_iff, Bool.not_eq_true', Bool.not_eq_false', decide_eq_true_eq, decide_eq_false_iff_not, beq_iff_eq, bne_iff_ne, List.length_map, List.length_take] at hc2; omega))) ?_
    refine sq_plain rfl rfl rfl (w_assign rfl (ev_tmp rfl)) ?_
    refine sq_nil ?_
    refine awp_region ?_
    refine sq_plain rfl rfl rfl (w_move rfl (ev_tmp rfl)) ?_
    refine sq_plain rfl rfl rfl (w_move rfl (ev_tmp rfl)) ?_
    refine sq_plain rfl rfl rfl (w_aidx 0 rfl Try.underlying53 Try.sizeOf153 (ev_tmp rfl) rfl (ev_tmp rfl) (by omega) (by rw [nrows_jlen hp hx (hl.trans (midN_len hinv.1).symm), midN_len hinv.1]; omega)) ?_
    refine sq_plain rfl rfl rfl (w_fldX 0 rfl Try.underlying153 rfl Try.sizeOf151 (ev_tmp rfl) rfl rfl (app_get (nrows_tlen hp hx))) ?_
    refine sq_plain rfl rfl rfl (w_loadXf 0 rfl (ev_tmp rfl) rfl Try.isAgg151 (app_get (nrows_tlen hp hx)) rfl) ?_
    refine sq_plain rfl rfl rfl (w_move rfl (ev_tmp rfl)) ?_
    refine sq_callG [1] rfl rfl rfl rfl Try.call184 rfl (markVerS_spec _ _ _ (by first | assumption | first | omega | (refine ⟨by omega, ?_⟩; simp only [marks_len] at *; omega))) (evl_cons (ev_tmp rfl) (evl_cons (ev_tmp rfl) evl_nil)) rfl ?_
    intro x26 ok26
    refine sq_plain rfl rfl rfl (w_assign rfl (ev_tmp rfl)) ?_
    refine sq_nil ?_
    refine AWP.le (le_pick [1, 0] rfl) ?_
    refine AWP.le (le_tail 1 (t := nin TCell.ow (midN TCell.markE TCell.markEN l k (i + 1)) xs) ((hstep ▸ nin_set (ow := TCell.ow) (p' := TCell.markE p0 c) hp hx))) ?_
    refine awp_region ?_
    refine sq_plain rfl rfl rfl (w_move rfl (ev_tmp rfl)) ?_
    refine sq_plain rfl rfl rfl (w_addi rfl (ev_tmp rfl) ev_ci (by first | omega | ((try simp only [List.length_map, List.length_take, List.length_cons, List.length_nil, chunks_len, szR] at *); omega) | (have hc2 := hc; simp only [Bool.and_eq_true, Bool.or_eq_true, Bool.or_eq_false_iff, Bool.and_eq_false_iff, Bool.not_eq_true', Bool.not_eq_false', decide_eq_true_eq, decide_eq_false_iff_not, beq_iff_eq, bne_iff_ne, List.length_map, List.length_take] at hc2; omega))) ?_
    refine sq_plain rfl rfl rfl (w_assign rfl (ev_tmp rfl)) ?_
    refine sq_nil ?_
    refine round_end2 i c (i + 1) (TCell.markEN p0 c) ?_ ?_ (le_eq (Eq.trans (by exact congrArg (fun z => Own.arr _ _ _ z :: _) ((nrows_join hp hx).trans (congrArg (fun z => nrows TCell.ocs z xs) hstep))) (List.append_nil _).symm) ⟨rfl, rfl, rfl, rfl, trivial⟩)
    · exact ⟨by omega, by rw [countN_snoc hq, hinv.2]⟩
    · omega
  · intro h9
    have k9 := of_decide_eq_false h9; try simp only [List.length_map] at k9
    simp only [nrows_len (hl.trans (midN_len hinv.1).symm), midN_len hinv.1] at k9
    have hge : l.length ≤ i := by omega
    rw [midN_end hge]
    refine awp_exit ?_
    refine awp_seq ?_
    refine awp_region ?_
    refine sq_plain rfl rfl rfl (w_move rfl (ev_tmp rfl)) ?_
    refine sq_plain rfl rfl rfl (w_assign rfl (ev_tmp rfl)) ?_
    refine sq_nil ?_
    refine awp_ret ?_
    exact retGT [0] 0 (nin TCell.ow (marksN TCell.markE TCell.markEN l k) xs) [] () (trivial) rfl (show List.Perm (nin TCell.ow (marksN TCell.markE TCell.markEN l k) xs) ((nin TCell.ow (marksN TCell.markE TCell.markEN l k) xs) ++ []) from perm_nil) (by rfl) (resR rfl (rv_tmp' rfl (by exact congrArg AV.int (by rw [hinv.2, List.take_of_length_le hge]))))
theorem heldCellS_spec (l : List TCell) (k : Int) (h : 0 ≤ k ∧ countN TCell.markEN l k ≤ 4611686018427387904) : FSpec Try.prog 83 [AV.list 2 ((marksN TCell.markE TCell.markEN l k).map TCell.cs), AV.int k] (AV.int (countN TCell.markEN l k)) := by
  have hll := countN_len TCell.markEN_le1 l k
  refine spec_of_awp Try.func83 rfl Try.ntmps83 rfl ?_
  refine awp_seq ?_
  refine awp_region ?_
  refine sq_plain rfl rfl rfl (w_assign rfl ev_ci) ?_
  refine sq_nil ?_
  refine awp_seq ?_
  refine awp_seq ?_
  refine awp_region ?_
  refine sq_plain rfl rfl rfl (w_assign rfl ev_ci) ?_
  refine sq_nil ?_
  refine awp_block ?_
  refine awp_loop_i2 [(0, _)] _ (fun (i : Nat) (c : Int) => i ≤ l.length ∧ c = countN TCell.markEN (l.take i) k) (fun (i : Nat) (c : Int) => []) (fun (i : Nat) (c : Int) => [(1, AV.int c), (5, AV.int i)]) (fun (i : Nat) (c : Int) => l.length - i) (0) (k) ?_ (le_env ⟨rfl, rfl, rfl, trivial⟩) ?_
  · exact ⟨Nat.zero_le _, rfl⟩
  intro i c hinv
  refine awp_seq ?_
  refine awp_seq ?_
  refine awp_region ?_
  refine sq_plain rfl rfl rfl (w_move rfl (ev_tmp rfl)) ?_
  refine sq_plain rfl rfl rfl (w_move rfl (ev_tmp rfl)) ?_
  refine sq_plain rfl rfl rfl (w_llen rfl Try.underlying53 (ev_tmp rfl)) ?_
  refine sq_plain rfl rfl rfl (w_lss rfl (ev_tmp rfl) (ev_tmp rfl)) ?_
  refine sq_nil ?_
  refine awp_cond (ev_tmp rfl) ?_ ?_
  · intro h9
    have k9 := of_decide_eq_true h9; try simp only [List.length_map] at k9
    simp only [List.length_map, marksN_len] at k9
    have hlt : i < l.length := by omega
    obtain ⟨p0, hq⟩ := get_some hlt
    have hx := marksN_get (mk := TCell.markE) (mn := TCell.markEN) (k := k) hq
    rw [← hinv.2] at hx
    have hct := countN_take TCell.markEN_le l (i + 1) k
    have hc0 := countN_take TCell.markEN_le l i k
    rw [countN_snoc hq, ← hinv.2] at hct
    rw [← hinv.2] at hc0
    have hce : TCell.markEN p0 c = c + 1 + 3 * p0.Vers.length := rfl
    refine awp_skip ?_
    refine awp_seq ?_
    refine awp_block ?_
    refine awp_seq ?_
    refine awp_seq ?_
    refine awp_region_any (by kernel_rfl) (by kernel_rfl) rfl ?_
    refine ch_plain rfl rfl (w_move rfl (ev_tmp rfl)) ?_
    refine ch_plain rfl rfl (w_move rfl (ev_tmp rfl)) ?_
    refine ch_plain rfl rfl (w_idxm rfl Try.underlying53 Try.sizeOf153 (ev_tmp rfl) (ev_tmp rfl) hx (by first | omega | ((try simp only [List.length_map, List.length_take, List.length_cons, List.length_nil, chunks_len, szR] at *); omega) | (have hc2 := hc; simp only [Bool.and_eq_true, Bool.or_eq_true, Bool.or_eq_false_iff, Bool.and_eq_false_iff, Bool.not_eq_true', Bool.not_eq_false', decide_eq_true_eq, decide_eq_false_iff_not, beq_iff_eq, bne_iff_ne, List.length_map, List.length_take] at hc2; omega))) ?_
    refine ch_plain rfl rfl (w_fldE rfl Try.underlying153 rfl Try.sizeOf9 (ev_tmp rfl) rfl) ?_
    refine ch_plain rfl rfl (w_loadE1 rfl (ev_tmp rfl) Try.isAgg9 rfl) ?_
    refine ch_plain rfl rfl (w_move rfl (ev_tmp rfl)) ?_
    refine ch_plain rfl rfl (w_call rfl Try.call183 rfl (markText_spec _ (by omega)) (evl_cons (ev_tmp rfl) evl_nil)) ?_
    refine ch_plain rfl rfl (w_sneq rfl (ev_tmp rfl) (ev_tmp rfl)) ?_
    refine ch_nil ?_
    refine awp_cond (ev_tmp rfl) ?_ ?_
    · intro h19
      exfalso; revert h19; simp [TCell.markE]
    · intro h19
      refine awp_skip ?_
      refine awp_seq ?_
      refine awp_region ?_
      refine sq_plain rfl rfl rfl (w_move rfl (ev_tmp rfl)) ?_
      refine sq_plain rfl rfl rfl (w_addi rfl (ev_tmp rfl) ev_ci (by first | omega | ((try simp only [List.length_map, List.length_take, List.length_cons, List.length_nil, chunks_len, szR] at *); omega) | (have hc2 := hc; simp only [Bool.and_eq_true, Bool.or_eq_true, Bool.or_eq_false_iff, Bool.and_eq_false_iff, Bool.not_eq_true', Bool.not_eq_false', decide_eq_true_eq, decide_eq_false_iff_not, beq_iff_eq, bne_iff_ne, List.length_map, List.length_take] at hc2; omega))) ?_
      refine sq_plain rfl rfl rfl (w_assign rfl (ev_tmp rfl)) ?_
      refine sq_nil ?_
      refine awp_seq ?_
      refine awp_region ?_
      refine sq_plain rfl rfl rfl (w_move rfl (ev_tmp rfl)) ?_
      refine sq_plain rfl rfl rfl (w_move rfl (ev_tmp rfl)) ?_
      refine sq_plain rfl rfl rfl (w_idxm rfl Try.underlying53 Try.sizeOf153 (ev_tmp rfl) (ev_tmp rfl) hx (by first | omega | ((try simp only [List.length_map, List.length_take, List.length_cons, List.length_nil, chunks_len, szR] at *); omega) | (have hc2 := hc; simp only [Bool.and_eq_true, Bool.or_eq_true, Bool.or_eq_false_iff, Bool.and_eq_false_iff, Bool.not_eq_true', Bool.not_eq_false', decide_eq_true_eq, decide_eq_false_iff_not, beq_iff_eq, bne_iff_ne, List.length_map, List.length_take] at hc2; omega))) ?_
      refine sq_plain rfl rfl rfl (w_fldE rfl Try.underlying153 rfl Try.sizeOf151 (ev_tmp rfl) rfl) ?_
      refine sq_plain rfl rfl rfl (w_loadE1 rfl (ev_tmp rfl) Try.isAgg151 rfl) ?_
      refine sq_plain rfl rfl rfl (w_move rfl (ev_tmp rfl)) ?_
      refine sq_plain rfl rfl rfl (w_call rfl Try.call185 rfl (heldVerS_spec p0.Vers.length (c + 1) (by omega)) (evl_cons (ev_tmp rfl) (evl_cons (ev_tmp rfl) evl_nil))) ?_
      refine sq_plain rfl rfl rfl (w_assign rfl (ev_tmp rfl)) ?_
      refine sq_nil ?_
      refine awp_seq ?_
      refine awp_region ?_
      refine sq_plain rfl rfl rfl (w_move rfl (ev_tmp rfl)) ?_
      refine sq_plain rfl rfl rfl (w_lss rfl (ev_tmp rfl) ev_ci) ?_
      refine sq_nil ?_
      refine awp_cond (ev_tmp rfl) ?_ ?_
      · intro h30
        have k30 := of_decide_eq_true h30; try simp only [List.length_map] at k30
        exfalso; have := of_decide_eq_true h30; omega
      · intro h30
        have k30 := of_decide_eq_false h30; try simp only [List.length_map] at k30
        refine awp_skip ?_
        refine awp_region ?_
        refine sq_plain rfl rfl rfl (w_move rfl (ev_tmp rfl)) ?_
        refine sq_plain rfl rfl rfl (w_addi rfl (ev_tmp rfl) ev_ci (by first | omega | ((try simp only [List.length_map, List.length_take, List.length_cons, List.length_nil, chunks_len, szR] at *); omega) | (have hc2 := hc; simp only [Bool.and_eq_true, Bool.or_eq_true, Bool.or_eq_false_iff, Bool.and_eq_false_iff, Bool.not_eq_true', Bool.not_eq_false', decide_eq_true_eq, decide_eq_false_iff_not, beq_iff_eq, bne_iff_ne, List.length_map, List.length_take] at hc2; omega))) ?_
        refine sq_plain rfl rfl rfl (w_assign rfl (ev_tmp rfl)) ?_
        refine sq_nil ?_
        refine round_end2 i c (i + 1) (TCell.markEN p0 c) ?_ ?_ (le_env ⟨rfl, rfl, rfl, trivial⟩)
        · exact ⟨by omega, by rw [countN_snoc hq, hinv.2]⟩
        · omega
  · intro h9
    have k9 := of_decide_eq_false h9; try simp only [List.length_map] at k9
    simp only [List.length_map, marksN_len] at k9
    have hge : l.length ≤ i := by omega
    refine awp_exit ?_
    refine awp_seq ?_
    refine awp_region ?_
    refine sq_plain rfl rfl rfl (w_move rfl (ev_tmp rfl)) ?_
    refine sq_plain rfl rfl rfl (w_assign rfl (ev_tmp rfl)) ?_
    refine sq_nil ?_
    refine awp_ret ?_
    exact retR rfl (rv_tmp' rfl (by exact congrArg AV.int (by rw [hinv.2, List.take_of_length_le hge])))
theorem putGood_own (q : List TCell) (x : TFeedItem) (hq : goodCells q = true) (hx : goodItem x = true) : GSpec Try.prog 60 [AV.list 2 (q.map TCell.cs), AV.list 3 ((wOf x).map TWrite.cs), AV.int x.Time] [] (fun y : Value × List Value => y.2.length = (putCells q (wOf x) x.Time).1.length) (fun y => .arr y.1 153 2 (nrows TCell.ocs (putCells q (wOf x) x.Time).1 y.2) :: nin TCell.ow (putCells q (wOf x) x.Time).1 y.2) (fun y => AV.tup [AV.is y.1, AV.bool (putCells q (wOf x) x.Time).2]) := by
  have h := good_size hq
  have := putCellsS_own q (wOf x) x.Time (by omega) (wOf_size hx)
  rw [putS_eq hq hx] at this
  exact this
theorem feedCellsS_own (l : List TCell) (w : List TFeedItem) (g : Int) (hs : sizeL TCell.size l ≤ 1048576) (hw : sizeL TFeedItem.size w ≤ 1048576) : GSpec Try.prog 75 [AV.list 2 (l.map TCell.cs), AV.list 5 (w.map TFeedItem.cs), AV.int g] [] (fun x : Value × List Value => x.2.length = (feedCellsS l w g).1.length) (fun x => .arr x.1 153 2 (nrows TCell.ocs (feedCellsS l w g).1 x.2) :: nin TCell.ow (feedCellsS l w g).1 x.2) (fun x => AV.tup [AV.is x.1, AV.bool (feedCellsS l w g).2]) := by
  have hwl : w.length ≤ 1048576 := Nat.le_trans sizeL_len hw
  refine gspec_of_awp Try.func75 rfl Try.ntmps75 rfl ?_
  refine awp_seq ?_
  refine awp_region ?_
  refine sq_plain rfl rfl rfl (w_assign rfl ev_cnils) ?_
  refine sq_plain rfl rfl rfl (w_assign rfl ev_cb) ?_
  refine sq_nil ?_
  refine awp_seq ?_
  refine awp_seq ?_
  refine awp_region ?_
  refine sq_plain rfl rfl rfl (w_move rfl (ev_tmp rfl)) ?_
  refine sq_plain rfl rfl rfl (w_call rfl Try.call143 rfl (l3Good_spec _ (by first | assumption | omega)) (evl_cons (ev_tmp rfl) evl_nil)) ?_
  refine sq_plain rfl rfl rfl (w_not rfl (ev_tmp rfl)) ?_
  refine sq_plain rfl rfl rfl (w_move rfl (ev_tmp rfl)) ?_
  refine sq_grd rfl rfl (guard_f rfl rfl rfl) (fun hc => w_move rfl (ev_tmp rfl)) ?_
  refine sq_grd rfl rfl (guard_f rfl rfl rfl) (fun hc => w_call rfl Try.call176 rfl (l23Feed_spec _ (by assumption)) (evl_cons (ev_whn rfl hc) evl_nil)) ?_
  refine sq_grd rfl rfl (guard_f rfl rfl rfl) (fun hc => w_not rfl (ev_whn rfl hc)) ?_
  refine sq_plain rfl rfl rfl (w_or rfl (ev_tmp rfl) (evif_w rfl)) ?_
  refine sq_plain rfl rfl rfl (w_move rfl (ev_tmp rfl)) ?_
  refine sq_grd rfl rfl (guard_f rfl rfl rfl) (fun hc => w_move rfl (ev_tmp rfl)) ?_
  refine sq_grd rfl rfl (guard_f rfl rfl rfl) (fun hc => w_call rfl Try.call110 rfl (l1In_spec _ _ _) (evl_cons (ev_whn rfl hc) (evl_cons ev_ci (evl_cons ev_ci evl_nil)))) ?_
  refine sq_grd rfl rfl (guard_f rfl rfl rfl) (fun hc => w_not rfl (ev_whn rfl hc)) ?_
  refine sq_plain rfl rfl rfl (w_or rfl (ev_tmp rfl) (evif_w rfl)) ?_
  refine sq_nil ?_
  refine awp_cond (ev_tmp rfl) ?_ ?_
  · intro h24
    have he : feedCellsS l w g = ([], false) := by unfold feedCellsS; rw [if_pos h24]
    rw [he]
    refine awp_seq ?_
    refine awp_region ?_
    refine sq_emptyarr rfl rfl rfl rfl Try.underlying53 Try.sizeOf153 ?_
    intro v25
    refine sq_plain rfl rfl rfl (w_assign rfl (ev_tmp rfl)) ?_
    refine sq_plain rfl rfl rfl (w_assign rfl ev_cb) ?_
    refine sq_nil ?_
    refine awp_ret ?_
    first | exact retG [0] (v25, []) (rfl) rfl (by rfl) (resN rfl (by decide) (rv_cons (rv_tmp' rfl (by rfl)) (rv_cons (rv_tmp' rfl (by rfl)) rv_nil))) | exact retG [0] (v25, xs) (hinv.2.1) rfl (by rfl) (resN rfl (by decide) (rv_cons (rv_tmp' rfl (by rfl)) (rv_cons (rv_tmp' rfl (by rfl)) rv_nil)))
  · intro h24
    have hg := h24
    simp only [Bool.or_eq_false_iff, Bool.not_eq_false'] at hg
    rw [← goodCells_eq, ← goodFeed_eq] at hg
    have he : feedCellsS l w g = feedRes l g w := by unfold feedCellsS; rw [if_neg (by rw [h24]; decide)]
    refine awp_skip ?_
    refine awp_seq ?_
    refine awp_region ?_
    refine sq_plain rfl rfl rfl (w_move rfl (ev_tmp rfl)) ?_
    refine sq_callGT [] 0 1 ([]) ([]) (fun zz => nin TCell.ow l zz.2) rfl rfl rfl rfl Try.call169 rfl rfl (show List.Perm ([]) (([]) ++ ([])) from List.Perm.refl _) (l3Own_own l (by omega)) (evl_cons (ev_tmp rfl) evl_nil) (fun a => perm_lin) ?_
    intro x27 ok27
    refine sq_plain rfl rfl rfl (w_assign rfl (ev_tmp rfl)) ?_
    refine sq_nil ?_
    refine awp_seq ?_
    refine awp_seq ?_
    refine awp_region ?_
    refine sq_plain rfl rfl rfl (w_assign rfl ev_ci) ?_
    refine sq_nil ?_
    refine awp_block ?_
    refine awp_loop_i4 [(1, _), (2, _)] [] (fun (i : Nat) (v : Value) (q : List TCell) (xs : List Value) => i ≤ w.length ∧ xs.length = q.length ∧ goodCells q = true ∧ feedRes l g w = feedRes q g (w.drop i)) (fun (i : Nat) (v : Value) (q : List TCell) (xs : List Value) => [.arr v 153 2 (nrows TCell.ocs q xs)] ++ (nin TCell.ow q xs)) (fun (i : Nat) (v : Value) (q : List TCell) (xs : List Value) => [(8, AV.is v), (9, AV.int i)]) (fun (i : Nat) (v : Value) (q : List TCell) (xs : List Value) => w.length - i) (0) (x27.1) (l) (x27.2) ?_ (le_eq (by rw [List.append_nil]; rfl) ⟨rfl, rfl, rfl, rfl, trivial⟩) ?_
    · exact ⟨Nat.zero_le _, ok27, hg.1.1, rfl⟩
    intro i v q xs hinv
    have hlen := hinv.2.1
    have hqs := good_size hinv.2.2.1
    refine awp_own (List.append_nil _) ?_
    refine awp_seq ?_
    refine awp_seq ?_
    refine awp_region ?_
    refine sq_plain rfl rfl rfl (w_move rfl (ev_tmp rfl)) ?_
    refine sq_plain rfl rfl rfl (w_move rfl (ev_tmp rfl)) ?_
    refine sq_plain rfl rfl rfl (w_llen rfl Try.underlying87 (ev_tmp rfl)) ?_
    refine sq_plain rfl rfl rfl (w_lss rfl (ev_tmp rfl) (ev_tmp rfl)) ?_
    refine sq_nil ?_
    refine awp_cond (ev_tmp rfl) ?_ ?_
    · intro h31
      have k31 := of_decide_eq_true h31; try simp only [List.length_map] at k31
      have hlt : i < w.length := by omega
      obtain ⟨x, hx⟩ := get_some hlt
      have hgi := feed_item hg.1.2 hx
      have hws := wOf_size hgi
      refine awp_skip ?_
      refine awp_seq ?_
      refine awp_block ?_
      refine awp_seq ?_
      refine awp_seq ?_
      refine awp_region ?_
      refine sq_plain rfl rfl rfl (w_move rfl (ev_tmp rfl)) ?_
      refine sq_plain rfl rfl rfl (w_move rfl (ev_tmp rfl)) ?_
      refine sq_plain rfl rfl rfl (w_idxm rfl Try.underlying87 Try.sizeOf179 (ev_tmp rfl) (ev_tmp rfl) hx (by first | omega | ((try simp only [List.length_map, List.length_take, List.length_cons, List.length_nil, chunks_len, szR] at *); omega) | (have hc2 := hc; simp only [Bool.and_eq_true, Bool.or_eq_true, Bool.or_eq_false_iff, Bool.and_eq_false_iff, Bool.not_eq_true', Bool.not_eq_false', decide_eq_true_eq, decide_eq_false_iff_not, beq_iff_eq, bne_iff_ne, List.length_map, List.length_take] at hc2; omega))) ?_
      refine sq_plain rfl rfl rfl (w_fldE rfl Try.underlying179 rfl Try.sizeOf3 (ev_tmp rfl) rfl) ?_
      refine sq_plain rfl rfl rfl (w_loadE1 rfl (ev_tmp rfl) Try.isAgg3 rfl) ?_
      refine sq_plain rfl rfl rfl (w_move rfl (ev_tmp rfl)) ?_
      refine sq_plain rfl rfl rfl (w_neq rfl (ev_tmp rfl) (ev_tmp rfl)) ?_
      refine sq_nil ?_
      refine awp_cond (ev_tmp rfl) ?_ ?_
      · intro h40
        have k40 := ne_of_bne h40; try simp only [List.length_map] at k40
        refine awp_exit ?_
        refine awp_region ?_
        refine sq_plain rfl rfl rfl (w_move rfl (ev_tmp rfl)) ?_
        refine sq_plain rfl rfl rfl (w_addi rfl (ev_tmp rfl) ev_ci (by first | omega | ((try simp only [List.length_map, List.length_take, List.length_cons, List.length_nil, chunks_len, szR] at *); omega) | (have hc2 := hc; simp only [Bool.and_eq_true, Bool.or_eq_true, Bool.or_eq_false_iff, Bool.and_eq_false_iff, Bool.not_eq_true', Bool.not_eq_false', decide_eq_true_eq, decide_eq_false_iff_not, beq_iff_eq, bne_iff_ne, List.length_map, List.length_take] at hc2; omega))) ?_
        refine sq_plain rfl rfl rfl (w_assign rfl (ev_tmp rfl)) ?_
        refine sq_nil ?_
        refine round_end4 i v q xs (i + 1) (v) (q) (xs) ?_ ?_ (Le.trans (le_pick [0] rfl) (le_eq (Eq.trans (by rfl) (List.append_nil _).symm) ⟨rfl, rfl, rfl, rfl, trivial⟩))
        · exact ⟨by omega, hlen, hinv.2.2.1, feedRes_skip hinv.2.2.2 hx k40⟩
        · omega
      · intro h40
        have k40 := eq_of_bne_false h40; try simp only [List.length_map] at k40
        refine awp_skip ?_
        refine awp_seq ?_
        refine awp_region_mix _ [(0, false), (1, false), (2, false), (3, false), (4, false), (5, false), (6, false), (7, false), (8, false), (9, false), (10, false), (11, false), (12, false), (13, false), (14, false), (15, false), (16, false), (17, false), (18, false), (19, false), (20, false), (21, false), (22, false), (23, true), (24, false), (25, false), (26, false), (27, false)] (by kernel_rfl) (by kernel_rfl) rfl (invx_take 1) ?_
        refine bc_plain rfl rfl rfl (fun ext => w_move rfl (ev_tmp rfl)) ?_
        refine bc_plain rfl rfl rfl (fun ext => w_move rfl (ev_tmp rfl)) ?_
        refine bc_plain rfl rfl rfl (fun ext => w_move rfl (ev_tmp rfl)) ?_
        refine bc_plain rfl rfl rfl (fun ext => w_idxm rfl Try.underlying87 Try.sizeOf179 (ev_tmp rfl) (ev_tmp rfl) hx (by first | omega | ((try simp only [List.length_map, List.length_take, List.length_cons, List.length_nil, chunks_len, szR] at *); omega) | (have hc2 := hc; simp only [Bool.and_eq_true, Bool.or_eq_true, Bool.or_eq_false_iff, Bool.and_eq_false_iff, Bool.not_eq_true', Bool.not_eq_false', decide_eq_true_eq, decide_eq_false_iff_not, beq_iff_eq, bne_iff_ne, List.length_map, List.length_take] at hc2; omega))) ?_
        refine bc_plain rfl rfl rfl (fun ext => w_fldE rfl Try.underlying179 rfl Try.sizeOf9 (ev_tmp rfl) rfl) ?_
        refine bc_plain rfl rfl rfl (fun ext => w_loadE1 rfl (ev_tmp rfl) Try.isAgg9 rfl) ?_
        refine bc_plain rfl rfl rfl (fun ext => w_move rfl (ev_tmp rfl)) ?_
        refine bc_plain rfl rfl rfl (fun ext => w_move rfl (ev_tmp rfl)) ?_
        refine bc_plain rfl rfl rfl (fun ext => w_idxm rfl Try.underlying87 Try.sizeOf179 (ev_tmp rfl) (ev_tmp rfl) hx (by first | omega | ((try simp only [List.length_map, List.length_take, List.length_cons, List.length_nil, chunks_len, szR] at *); omega) | (have hc2 := hc; simp only [Bool.and_eq_true, Bool.or_eq_true, Bool.or_eq_false_iff, Bool.and_eq_false_iff, Bool.not_eq_true', Bool.not_eq_false', decide_eq_true_eq, decide_eq_false_iff_not, beq_iff_eq, bne_iff_ne, List.length_map, List.length_take] at hc2; omega))) ?_
        refine bc_plain rfl rfl rfl (fun ext => w_fldE rfl Try.underlying179 rfl Try.sizeOf9 (ev_tmp rfl) rfl) ?_
        refine bc_plain rfl rfl rfl (fun ext => w_loadE1 rfl (ev_tmp rfl) Try.isAgg9 rfl) ?_
        refine bc_plain rfl rfl rfl (fun ext => w_move rfl (ev_tmp rfl)) ?_
        refine bc_plain rfl rfl rfl (fun ext => w_move rfl (ev_tmp rfl)) ?_
        refine bc_plain rfl rfl rfl (fun ext => w_idxm rfl Try.underlying87 Try.sizeOf179 (ev_tmp rfl) (ev_tmp rfl) hx (by first | omega | ((try simp only [List.length_map, List.length_take, List.length_cons, List.length_nil, chunks_len, szR] at *); omega) | (have hc2 := hc; simp only [Bool.and_eq_true, Bool.or_eq_true, Bool.or_eq_false_iff, Bool.and_eq_false_iff, Bool.not_eq_true', Bool.not_eq_false', decide_eq_true_eq, decide_eq_false_iff_not, beq_iff_eq, bne_iff_ne, List.length_map, List.length_take] at hc2; omega))) ?_
        refine bc_plain rfl rfl rfl (fun ext => w_fldE rfl Try.underlying179 rfl Try.sizeOf4 (ev_tmp rfl) rfl) ?_
        refine bc_plain rfl rfl rfl (fun ext => w_loadE1 rfl (ev_tmp rfl) Try.isAgg4 rfl) ?_
        refine bc_plain rfl rfl rfl (fun ext => w_build (places := #[(0, 1), (1, 1), (2, 1)]) rfl Try.underlying65 Try.zeroValue65 (fun w => by kernel_rfl) rfl (bp_cons (ev_tmp rfl) (as_str _) (bp_cons (ev_tmp rfl) (as_str _) (bp_cons (ev_tmp rfl) (as_bool _) bp_nil))) rfl) ?_
        refine bc_plain rfl rfl rfl (fun ext => w_bslice rfl Try.underlying60 Try.sizeOf65 Try.zeroValue65 rfl rfl rfl rfl (bp_cons (ev_tmp rfl) (as_agg _) bp_nil) rfl rfl) ?_
        refine bc_plain rfl rfl rfl (fun ext => w_move rfl (ev_tmp rfl)) ?_
        refine bc_plain rfl rfl rfl (fun ext => w_move rfl (ev_tmp rfl)) ?_
        refine bc_plain rfl rfl rfl (fun ext => w_idxm rfl Try.underlying87 Try.sizeOf179 (ev_tmp rfl) (ev_tmp rfl) hx (by first | omega | ((try simp only [List.length_map, List.length_take, List.length_cons, List.length_nil, chunks_len, szR] at *); omega) | (have hc2 := hc; simp only [Bool.and_eq_true, Bool.or_eq_true, Bool.or_eq_false_iff, Bool.and_eq_false_iff, Bool.not_eq_true', Bool.not_eq_false', decide_eq_true_eq, decide_eq_false_iff_not, beq_iff_eq, bne_iff_ne, List.length_map, List.length_take] at hc2; omega))) ?_
        refine bc_plain rfl rfl rfl (fun ext => w_fldE rfl Try.underlying179 rfl Try.sizeOf3 (ev_tmp rfl) rfl) ?_
        refine bc_plain rfl rfl rfl (fun ext => w_loadE1 rfl (ev_tmp rfl) Try.isAgg3 rfl) ?_
        refine bc_eff rfl rfl rfl (opE_midT 1 1 (fun zz => nin TCell.ow (putCells q (wOf x) x.Time).1 zz.2 ++ (nin TCell.ow q xs)) (fun zz => List.Perm.refl _) (opE_callB [] rfl Try.call60 rfl (putGood_own q x hinv.2.2.1 hgi) rfl (evlb_cons (evb_lt (ev_tmp rfl) (nin_lend TCell.lcM (by first | exact hlen | exact hlen.trans (marksN_len _ _).symm) 0 rfl (fun o ho => List.mem_of_mem_drop (i := 1) (show o ∈ nin TCell.ow q xs from by first | exact ho | exact List.mem_append_left _ ho | exact List.mem_append_right _ ho | exact List.mem_append_right _ (List.mem_append_left _ ho) | exact List.mem_append_right _ (List.mem_append_right _ ho))))) (evlb_cons (evb (ev_tmp rfl)) (evlb_cons (evb (ev_tmp rfl)) evlb_nil))) (by first | exact flatO_nil | (intro _; exact flatO_nil) | (intro _; first | exact flat_is _ | exact flat_ik _ _ | exact flat_bool _ | exact flat_str _ | exact flat_nils) | (intro _; refine flat_tup ?_; (repeat (first | exact flatl_nil | (refine flatl_cons (by first | (first | exact flat_is _ | exact flat_ik _ _ | exact flat_bool _ | exact flat_str _ | exact flat_nils) | (refine flat_agg ?_; (repeat (first | exact flatl_nil | (refine flatl_cons (by first | exact flat_is _ | exact flat_ik _ _ | exact flat_bool _ | exact flat_str _ | exact flat_nils) ?_))))) ?_))); done) | (intro _; refine flat_agg ?_; (repeat (first | exact flatl_nil | (refine flatl_cons (by first | exact flat_is _ | exact flat_ik _ _ | exact flat_bool _ | exact flat_str _ | exact flat_nils) ?_))); done) | ((repeat (first | exact flatO_nil | (refine flatO_cons (flatO_box ?_) ?_; (repeat (first | exact flatl_nil | (refine flatl_cons (by first | exact flat_is _ | exact flat_ik _ _ | exact flat_bool _ | exact flat_str _ | exact flat_nils) ?_)))) | (refine flatO_cons (flatO_arr ?_) ?_; (repeat (first | exact flate_nil | (refine flate_map (fun _ => ?_); (first | exact TWrite.flat _ | exact TFeedItem.flat _ | exact TIdx.flat _ | exact TVer.flat _ | (repeat (first | exact flatl_nil | (refine flatl_cons (by first | exact flat_is _ | exact flat_ik _ _ | exact flat_bool _ | exact flat_str _ | exact flat_nils) ?_))))) | (refine flate_rep ?_; (first | exact TWrite.flat _ | exact TFeedItem.flat _ | exact TIdx.flat _ | exact TVer.flat _ | (repeat (first | exact flatl_nil | (refine flatl_cons (by first | exact flat_is _ | exact flat_ik _ _ | exact flat_bool _ | exact flat_str _ | exact flat_nils) ?_))))) | (refine flate_cons ?_ ?_; (first | exact TWrite.flat _ | exact TFeedItem.flat _ | exact TIdx.flat _ | exact TVer.flat _ | (repeat (first | exact flatl_nil | (refine flatl_cons (by first | exact flat_is _ | exact flat_ik _ _ | exact flat_bool _ | exact flat_str _ | exact flat_nils) ?_))))) | refine flate_app ?_ ?_))))); done) | (intro _; (repeat (first | exact flatO_nil | (refine flatO_cons (flatO_box ?_) ?_; (repeat (first | exact flatl_nil | (refine flatl_cons (by first | exact flat_is _ | exact flat_ik _ _ | exact flat_bool _ | exact flat_str _ | exact flat_nils) ?_)))) | (refine flatO_cons (flatO_arr ?_) ?_; (repeat (first | exact flate_nil | (refine flate_map (fun _ => ?_); (first | exact TWrite.flat _ | exact TFeedItem.flat _ | exact TIdx.flat _ | exact TVer.flat _ | (repeat (first | exact flatl_nil | (refine flatl_cons (by first | exact flat_is _ | exact flat_ik _ _ | exact flat_bool _ | exact flat_str _ | exact flat_nils) ?_))))) | (refine flate_rep ?_; (first | exact TWrite.flat _ | exact TFeedItem.flat _ | exact TIdx.flat _ | exact TVer.flat _ | (repeat (first | exact flatl_nil | (refine flatl_cons (by first | exact flat_is _ | exact flat_ik _ _ | exact flat_bool _ | exact flat_str _ | exact flat_nils) ?_))))) | (refine flate_cons ?_ ?_; (first | exact TWrite.flat _ | exact TFeedItem.flat _ | exact TIdx.flat _ | exact TVer.flat _ | (repeat (first | exact flatl_nil | (refine flatl_cons (by first | exact flat_is _ | exact flat_ik _ _ | exact flat_bool _ | exact flat_str _ | exact flat_nils) ?_))))) | refine flate_app ?_ ?_))))); done)) (fun x => flat_tup (flatC_cons (flat_is _) (flatC_cons (flat_bool _) flatC_nil))) (fun x => flatO_cons (flatO_arr (nrows_flat TCell.flatC _ _)) (nin_flat TCell.flatW _ _)))) (fun a _ => (by first | exact invx_mk rfl | exact invx_mk (List.append_assoc _ _ _) | exact invx_all)) ?_
        intro x65 ok65
        refine bc_plain rfl rfl rfl (fun ext => w_move rfl (ev_tmp rfl)) ?_
        refine bc_plain rfl rfl rfl (fun ext => w_extract rfl (ev_tmp rfl) rfl) ?_
        refine bc_plain rfl rfl rfl (fun ext => w_extract rfl (ev_tmp rfl) rfl) ?_
        refine bc_plain rfl rfl rfl (fun ext => w_assign rfl (ev_tmp rfl)) ?_
        refine bc_nil ?_
        refine sq_plain rfl rfl rfl (w_assign rfl (ev_tmp rfl)) ?_
        refine sq_nil ?_
        refine awp_seq ?_
        refine awp_seq ?_
        refine awp_region ?_
        refine sq_plain rfl rfl rfl (w_move rfl (ev_tmp rfl)) ?_
        refine sq_plain rfl rfl rfl (w_not rfl (ev_tmp rfl)) ?_
        refine sq_nil ?_
        refine awp_cond (ev_tmp rfl) ?_ ?_
        · intro h69
          rw [he, feedRes_stop hinv.2.2.2 hx k40 (by simpa using h69)]
          refine awp_seq ?_
          refine awp_region ?_
          refine sq_emptyarr rfl rfl rfl rfl Try.underlying53 Try.sizeOf153 ?_
          intro v70
          refine sq_plain rfl rfl rfl (w_assign rfl (ev_tmp rfl)) ?_
          refine sq_plain rfl rfl rfl (w_assign rfl ev_cb) ?_
          refine sq_nil ?_
          refine awp_ret ?_
          first | exact retG [0] (v70, []) (rfl) rfl (by rfl) (resN rfl (by decide) (rv_cons (rv_tmp' rfl (by rfl)) (rv_cons (rv_tmp' rfl (by rfl)) rv_nil))) | exact retGT [0] 2 (nin TCell.ow q xs) [] (v70, []) (rfl) rfl (show List.Perm (nin TCell.ow q xs) ((nin TCell.ow q xs) ++ []) from perm_nil) (by rfl) (resN rfl (by decide) (rv_cons (rv_tmp' rfl (by rfl)) (rv_cons (rv_tmp' rfl (by rfl)) rv_nil))) | exact retGT [0] 2 (nin TCell.ow q xs) [] (v70, xs) (hinv.2.1) rfl (show List.Perm (nin TCell.ow q xs) ((nin TCell.ow q xs) ++ []) from perm_nil) (by rfl) (resN rfl (by decide) (rv_cons (rv_tmp' rfl (by rfl)) (rv_cons (rv_tmp' rfl (by rfl)) rv_nil)))
        · intro h69
          have h69' : (putCells q (wOf x) x.Time).2 = true := by simpa using h69
          refine awp_skip ?_
          refine AWP.le (le_cut 2 (t := nin TCell.ow (putCells q (wOf x) x.Time).1 x65.2) (r := nin TCell.ow q xs) (List.Perm.refl _)) ?_
          refine awp_region ?_
          refine sq_plain rfl rfl rfl (w_move rfl (ev_tmp rfl)) ?_
          refine sq_plain rfl rfl rfl (w_assign rfl (ev_tmp rfl)) ?_
          refine sq_nil ?_
          refine awp_region ?_
          refine sq_plain rfl rfl rfl (w_move rfl (ev_tmp rfl)) ?_
          refine sq_plain rfl rfl rfl (w_addi rfl (ev_tmp rfl) ev_ci (by first | omega | ((try simp only [List.length_map, List.length_take, List.length_cons, List.length_nil, chunks_len, szR] at *); omega) | (have hc2 := hc; simp only [Bool.and_eq_true, Bool.or_eq_true, Bool.or_eq_false_iff, Bool.and_eq_false_iff, Bool.not_eq_true', Bool.not_eq_false', decide_eq_true_eq, decide_eq_false_iff_not, beq_iff_eq, bne_iff_ne, List.length_map, List.length_take] at hc2; omega))) ?_
          refine sq_plain rfl rfl rfl (w_assign rfl (ev_tmp rfl)) ?_
          refine sq_nil ?_
          refine round_end4 i v q xs (i + 1) (x65.1) ((putCells q (wOf x) x.Time).1) (x65.2) ?_ ?_ (Le.trans (le_pick [0, 0] rfl) (le_dropeq 1 (Eq.trans (by rfl) (List.append_nil _).symm) ⟨rfl, rfl, rfl, rfl, trivial⟩))
          · exact ⟨by omega, ok65, put_good h69', feedRes_put hinv.2.2.2 hx k40 h69'⟩
          · omega
    · intro h31
      have k31 := of_decide_eq_false h31; try simp only [List.length_map] at k31
      have hge : w.length ≤ i := by omega
      have hr := feedRes_end hinv.2.2.2 hge
      rw [he, hr]
      refine awp_exit ?_
      refine awp_seq ?_
      refine awp_region ?_
      refine sq_plain rfl rfl rfl (w_move rfl (ev_tmp rfl)) ?_
      refine sq_plain rfl rfl rfl (w_assign rfl (ev_tmp rfl)) ?_
      refine sq_plain rfl rfl rfl (w_assign rfl ev_cb) ?_
      refine sq_nil ?_
      refine awp_ret ?_
      first | exact retG [0] (v, []) (rfl) rfl (by rfl) (resN rfl (by decide) (rv_cons (rv_tmp' rfl (by rfl)) (rv_cons (rv_tmp' rfl (by rfl)) rv_nil))) | exact retGT [0] 0 (nin TCell.ow q xs) [] (v, []) (rfl) rfl (show List.Perm (nin TCell.ow q xs) ((nin TCell.ow q xs) ++ []) from perm_nil) (by rfl) (resN rfl (by decide) (rv_cons (rv_tmp' rfl (by rfl)) (rv_cons (rv_tmp' rfl (by rfl)) rv_nil))) | exact retGT [0] 0 (nin TCell.ow q xs) [] (v, xs) (hinv.2.1) rfl (show List.Perm (nin TCell.ow q xs) ((nin TCell.ow q xs) ++ []) from perm_nil) (by rfl) (resN rfl (by decide) (rv_cons (rv_tmp' rfl (by rfl)) (rv_cons (rv_tmp' rfl (by rfl)) rv_nil)))
end Go.Proofs.Yteliahajeokciaa
