/- Texts of the claim, part 6. -/
import Derived.RangeFuncNested
import Derived.RangeFuncBound
import Derived.RangeFuncCalls
import Derived.RangeFuncLeaves
import Derived.RangeFuncBox
import Derived.Shelf.Abstract
import Derived.Shelf.RegionOpen
import Derived.WalkKit
import Derived.OwnWalkIn
import Derived.TacticsInMore
import Derived.LoopNIn
import Derived.LoopIn
import Derived.Test.YteliahajeokciaaZTimes5

set_option linter.unusedVariables false
set_option linter.unusedSimpArgs false
set_option maxRecDepth 100000
set_option maxHeartbeats 1000000
namespace Go.Proofs.Yteliahajeokciaa
open Go Go.AV Go.M
attribute [local irreducible] OpW OpA OpS AWP FSpec ESpec GSpec OpE RetOk RetOkG RvDen Le Ev GuardIs SrcIs
theorem toCell_own (a : TCell) (hs : a.size ≤ 1048576) : GSpec Try.prog 177 [AV.agg a.cs] [] (fun _ : Value => True) (fun x => TCell.ow a x) (fun x => AV.agg (TCell.ocs a x)) := by
  unfold TCell.size at hs
  refine gspec_of_awp Try.func177 rfl Try.ntmps177 rfl ?_
  refine awp_seq ?_
  refine awp_region ?_
  refine sq_box rfl rfl rfl rfl (ev_tmp rfl) ?_
  intro b1
  refine sq_alloc rfl rfl rfl rfl Try.zeroValue153 rfl ?_
  intro b2
  refine sq_nil ?_
  refine awp_seq ?_
  refine awp_region ?_
  refine sq_alloc rfl rfl rfl rfl Try.zeroValue153 rfl ?_
  intro b3
  refine sq_nil ?_
  refine awp_seq ?_
  refine awp_region ?_
  refine sq_plain rfl rfl rfl (w_fldBn 0 rfl Try.underlying175 rfl Try.sizeOf9 (ev_tmp rfl) rfl) ?_
  refine sq_plain rfl rfl rfl (w_loadB1 2 rfl (ev_tmp rfl) rfl Try.isAgg9 rfl) ?_
  refine sq_plain rfl rfl rfl (w_fldBn 0 rfl Try.underlying153 rfl Try.sizeOf9 (ev_tmp rfl) rfl) ?_
  refine sq_storeB1 0 rfl rfl rfl (ev_tmp rfl) (ev_tmp rfl) (as_str _) rfl Try.sizeOf9 rfl ?_
  refine sq_nil ?_
  refine awp_seq ?_
  refine awp_region ?_
  refine sq_plain rfl rfl rfl (w_fldBn 1 rfl Try.underlying175 rfl Try.sizeOf173 (ev_tmp rfl) rfl) ?_
  refine sq_plain rfl rfl rfl (w_loadB1 2 rfl (ev_tmp rfl) rfl Try.isAgg173 rfl) ?_
  refine sq_callG [] rfl rfl rfl rfl Try.call248 rfl (toVerS_own _ (by first | assumption | omega)) (evl_cons (ev_tmp rfl) evl_nil) rfl ?_
  intro x9 ok9
  refine sq_plain rfl rfl rfl (w_fldBn 1 rfl Try.underlying153 rfl Try.sizeOf151 (ev_tmp rfl) rfl) ?_
  refine sq_fact 0 rfl fun one_x9 => ?_
  refine sq_storeB1 1 rfl rfl rfl (ev_tmp rfl) (ev_tmp rfl) (as_is one_x9) rfl Try.sizeOf151 rfl ?_
  refine sq_nil ?_
  refine awp_seq ?_
  refine awp_region ?_
  refine sq_plain rfl rfl rfl (w_loadA 1 rfl (ev_tmp rfl) rfl Try.isAgg153 Try.sizeOf153 rfl) ?_
  refine sq_storeB0 2 rfl rfl rfl (ev_tmp rfl) (ev_tmp rfl) (as_agg _) rfl Try.sizeOf153 rfl ?_
  refine sq_nil ?_
  refine awp_ret ?_
  exact retG [0] x9 (trivial) rfl (by rfl) (resR rfl (rv_cell (ys := _) 2 rfl rfl Try.isAgg153 Try.sizeOf153 rfl))
theorem toCellS_own (l : List TCell) (hs : sizeL TCell.size l ≤ 1048576) : GSpec Try.prog 76 [AV.list 2 (l.map TCell.cs)] [] (fun x : Value × List Value => x.2.length = l.length) (fun x => .arr x.1 153 2 (nrows TCell.ocs l x.2) :: nin TCell.ow l x.2) (fun x => AV.is x.1) := by
  have hsl : l.length ≤ 1048576 := Nat.le_trans sizeL_len hs
  refine gspec_of_awp Try.func76 rfl Try.ntmps76 rfl ?_
  refine awp_seq ?_
  refine awp_region ?_
  refine sq_plain rfl rfl rfl (w_assign rfl ev_cnils) ?_
  refine sq_nil ?_
  refine awp_seq ?_
  refine awp_region ?_
  refine sq_plain rfl rfl rfl (w_move rfl (ev_tmp rfl)) ?_
  refine sq_plain rfl rfl rfl (w_llen rfl Try.underlying81 (ev_tmp rfl)) ?_
  refine sq_make (by' := 40) rfl rfl rfl rfl Try.underlying53 Try.type153 rfl rfl rfl rfl rfl rfl (ev_tmp rfl) (ev_tmp rfl) (by simp only [List.length_map]; omega) (by simp only [List.length_map]; omega) ?_
  intro v7
  refine sq_plain rfl rfl rfl (w_assign rfl (ev_tmp rfl)) ?_
  refine sq_nil ?_
  refine awp_seq ?_
  refine awp_seq ?_
  refine awp_region ?_
  refine sq_plain rfl rfl rfl (w_assign rfl ev_ci) ?_
  refine sq_nil ?_
  refine awp_block ?_
  refine awp_loop_i2 [(0, _), (2, _), (3, _)] [] (fun (i : Nat) (xs : List Value) => i ≤ l.length ∧ xs.length = i) (fun (i : Nat) (xs : List Value) => [.arr v7 153 2 (nrows TCell.ocs (l.take i) xs ++ List.replicate (l.length - i) [AV.str [], AV.nils])] ++ (nin TCell.ow (l.take i) xs)) (fun (i : Nat) (xs : List Value) => [(4, AV.int i)]) (fun (i : Nat) (xs : List Value) => l.length - i) (0) ([]) ?_ (le_eq (by simp only [List.length_map]; rfl) ⟨rfl, rfl, rfl, rfl, trivial⟩) ?_
  · exact ⟨Nat.zero_le _, rfl⟩
  intro i xs hinv
  refine awp_own (List.append_nil _) ?_
  refine awp_seq ?_
  refine awp_seq ?_
  refine awp_region ?_
  refine sq_plain rfl rfl rfl (w_move rfl (ev_tmp rfl)) ?_
  refine sq_plain rfl rfl rfl (w_move rfl (ev_tmp rfl)) ?_
  refine sq_plain rfl rfl rfl (w_llen rfl Try.underlying81 (ev_tmp rfl)) ?_
  refine sq_plain rfl rfl rfl (w_lss rfl (ev_tmp rfl) (ev_tmp rfl)) ?_
  refine sq_nil ?_
  refine awp_cond (ev_tmp rfl) ?_ ?_
  · intro h11
    have k11 := of_decide_eq_true h11; try simp only [List.length_map] at k11
    have hlt : i < l.length := by omega
    obtain ⟨x, hx⟩ := get_some hlt
    have hsx : TCell.size x ≤ 1048576 := Nat.le_trans (sizeL_get hx) hs
    refine awp_skip ?_
    refine awp_seq ?_
    refine awp_block ?_
    refine awp_region ?_
    refine sq_plain rfl rfl rfl (w_move rfl (ev_tmp rfl)) ?_
    refine sq_plain rfl rfl rfl (w_move rfl (ev_tmp rfl)) ?_
    refine sq_plain rfl rfl rfl (w_move rfl (ev_tmp rfl)) ?_
    refine sq_plain rfl rfl rfl (w_move rfl (ev_tmp rfl)) ?_
    refine sq_plain rfl rfl rfl (w_idx rfl Try.underlying81 Try.sizeOf175 (ev_tmp rfl) (ev_tmp rfl) (by omega) (by simp only [Int.toNat_natCast, List.getElem?_map, hx, Option.map_some]; try rfl)) ?_
    refine sq_plain rfl rfl rfl (w_loadE rfl (ev_tmp rfl) Try.isAgg175 Try.sizeOf175) ?_
    refine sq_callG [] rfl rfl rfl rfl Try.call177 rfl (toCell_own _ (by assumption)) (evl_cons (ev_tmp rfl) evl_nil) rfl ?_
    intro x20 ok20
    refine sq_plain rfl rfl rfl (w_aidx 1 rfl Try.underlying53 Try.sizeOf153 (ev_tmp rfl) rfl (ev_tmp rfl) (by omega) (by rw [nfill_len hinv.1 hinv.2]; omega)) ?_
    refine sq_storeA 1 rfl rfl rfl (ev_tmp rfl) (ev_tmp rfl) (as_agg _) rfl Try.sizeOf153 rfl (by rw [nfill_len hinv.1 hinv.2]; omega) ?_
    refine sq_nil ?_
    refine AWP.le (le_pick [1, 0] rfl) ?_
    refine AWP.le (le_tail 1 (t := nin TCell.ow (l.take (i + 1)) (xs ++ [x20])) (nin_step (ow := TCell.ow) (x := x20) hx hinv.2)) ?_
    refine awp_region ?_
    refine sq_plain rfl rfl rfl (w_move rfl (ev_tmp rfl)) ?_
    refine sq_plain rfl rfl rfl (w_addi rfl (ev_tmp rfl) ev_ci (by first | omega | ((try simp only [List.length_map, List.length_take, List.length_cons, List.length_nil, chunks_len, szR] at *); omega) | (have hc2 := hc; simp only [Bool.and_eq_true, Bool.or_eq_true, Bool.or_eq_false_iff, Bool.and_eq_false_iff, Bool.not_eq_true', Bool.not_eq_false', decide_eq_true_eq, decide_eq_false_iff_not, beq_iff_eq, bne_iff_ne, List.length_map, List.length_take] at hc2; omega))) ?_
    refine sq_plain rfl rfl rfl (w_assign rfl (ev_tmp rfl)) ?_
    refine sq_nil ?_
    refine round_end2 i xs (i + 1) (xs ++ [x20]) ?_ ?_ (le_eq (Eq.trans (by exact congrArg (fun z => Own.arr _ _ _ z :: _) (nfill_step hx hinv.2)) (List.append_nil _).symm) ⟨rfl, rfl, rfl, rfl, trivial⟩)
    · exact ⟨by omega, by rw [List.length_append, hinv.2]; rfl⟩
    · omega
  · intro h11
    have k11 := of_decide_eq_false h11; try simp only [List.length_map] at k11
    have hge : i = l.length := by omega
    have hxs := hinv.2.trans hge
    rw [show l.take i = l from List.take_of_length_le (by omega), show l.length - i = 0 by omega, List.replicate_zero, List.append_nil]
    refine awp_exit ?_
    refine awp_seq ?_
    refine awp_region ?_
    refine sq_plain rfl rfl rfl (w_move rfl (ev_tmp rfl)) ?_
    refine sq_plain rfl rfl rfl (w_assign rfl (ev_tmp rfl)) ?_
    refine sq_nil ?_
    refine awp_ret ?_
    exact retGT [0] 0 (nin TCell.ow l xs) [] (v7, xs) (hxs) rfl (show List.Perm (nin TCell.ow l xs) ((nin TCell.ow l xs) ++ []) from perm_nil) (by rfl) (resR rfl (rv_tmp' rfl (by first | rfl | (refine congrArg AV.bool ?_; simp_all; done))))
theorem markCellS_spec (v : Value) (l : List TCell) (xs : List Value) (k : Int) (hl : xs.length = l.length) (h : 0 ≤ k ∧ countN TCell.markEN l k ≤ 4611686018427387904) : GSpec Try.prog 81 [AV.is v, AV.int k] (.arr v 153 2 (nrows TCell.ocs l xs) :: nin TCell.ow l xs) (fun _ : Unit => True) (fun _ => .arr v 153 2 (nrows TCell.ocs (marksN TCell.markE TCell.markEN l k) xs) :: nin TCell.ow (marksN TCell.markE TCell.markEN l k) xs) (fun _ => AV.int (countN TCell.markEN l k)) := by
  have hll := countN_len TCell.markEN_le1 l k
  refine gspec_of_awp Try.func81 rfl Try.ntmps81 rfl ?_
  refine awp_seq ?_
  refine awp_region ?_
  refine sq_plain rfl rfl rfl (w_assign rfl ev_ci) ?_
  refine sq_nil ?_
  refine awp_seq ?_
  refine awp_seq ?_
  refine awp_region ?_
  refine sq_plain rfl rfl rfl (w_assign rfl ev_ci) ?_
  refine sq_nil ?_
  refine awp_block ?_
  refine awp_loop_i2 [(0, _), (4, _)] [] (fun (i : Nat) (c : Int) => i ≤ l.length ∧ c = countN TCell.markEN (l.take i) k) (fun (i : Nat) (c : Int) => [.arr v 153 2 (nrows TCell.ocs (midN TCell.markE TCell.markEN l k i) xs)] ++ (nin TCell.ow (midN TCell.markE TCell.markEN l k i) xs)) (fun (i : Nat) (c : Int) => [(1, AV.int c), (5, AV.int i)]) (fun (i : Nat) (c : Int) => l.length - i) (0) (k) ?_ (le_eq (by rw [midN_zero, List.append_nil]; rfl) ⟨rfl, rfl, rfl, rfl, trivial⟩) ?_
  · exact ⟨Nat.zero_le _, rfl⟩
  intro i c hinv
  refine awp_own (List.append_nil _) ?_
  refine awp_seq ?_
  refine awp_seq ?_
  refine awp_region ?_
  refine sq_plain rfl rfl rfl (w_move rfl (ev_tmp rfl)) ?_
  refine sq_plain rfl rfl rfl (w_move rfl (ev_tmp rfl)) ?_
  refine sq_plain rfl rfl rfl (w_alen 0 rfl Try.underlying53 (ev_tmp rfl) rfl) ?_
  refine sq_plain rfl rfl rfl (w_lss rfl (ev_tmp rfl) (ev_tmp rfl)) ?_
  refine sq_nil ?_
  refine awp_cond (ev_tmp rfl) ?_ ?_
  · intro h9
    have k9 := of_decide_eq_true h9; try simp only [List.length_map] at k9
    simp only [nrows_len (hl.trans (midN_len hinv.1).symm), midN_len hinv.1] at k9
    have hlt : i < l.length := by omega
    obtain ⟨p0, hq⟩ := get_some hlt
    have hp := midN_get (mk := TCell.markE) (mn := TCell.markEN) (k := k) hq
    obtain ⟨x, hx⟩ := get_some (show i < xs.length by omega)
    have hstep := midN_step (mk := TCell.markE) (mn := TCell.markEN) (k := k) hq
    rw [← hinv.2] at hstep
    have hct := countN_take TCell.markEN_le l (i + 1) k
    have hc0 := countN_take TCell.markEN_le l i k
    rw [countN_snoc hq, ← hinv.2] at hct
    rw [← hinv.2] at hc0
    have hce : TCell.markEN p0 c = c + 1 + 3 * p0.Vers.length := rfl
    rw [nrows_split hp hx]
    refine awp_skip ?_
    refine awp_seq ?_
    refine awp_block ?_
    refine awp_seq ?_
    refine AWP.le (le_tail 1 (t := (TCell.ow p0 x) ++ (nin TCell.ow ((midN TCell.markE TCell.markEN l k i).eraseIdx i) (xs.eraseIdx i))) (nin_get (ow := TCell.ow) hp hx)) ?_
    refine awp_region ?_
    refine sq_plain rfl rfl rfl (w_move rfl (ev_tmp rfl)) ?_
    refine sq_plain rfl rfl rfl (w_move rfl (ev_tmp rfl)) ?_
    refine sq_plain rfl rfl rfl (w_move rfl (ev_tmp rfl)) ?_
    refine sq_plain rfl rfl rfl (w_call rfl Try.call183 rfl (markText_spec _ (by omega)) (evl_cons (ev_tmp rfl) evl_nil)) ?_
    refine sq_plain rfl rfl rfl (w_aidx 0 rfl Try.underlying53 Try.sizeOf153 (ev_tmp rfl) rfl (ev_tmp rfl) (by omega) (by rw [nrows_jlen hp hx (hl.trans (midN_len hinv.1).symm), midN_len hinv.1]; omega)) ?_
    refine sq_plain rfl rfl rfl (w_fldX 0 rfl Try.underlying153 rfl Try.sizeOf9 (ev_tmp rfl) rfl rfl (app_get (nrows_tlen hp hx))) ?_
    refine sq_storeXA 0 rfl rfl rfl (ev_tmp rfl) (ev_tmp rfl) (as_str _) rfl Try.sizeOf9 (nrows_tlen hp hx) rfl ?_
    refine sq_nil ?_
    refine awp_seq ?_
    refine awp_region ?_
    refine sq_plain rfl rfl rfl (w_move rfl (ev_tmp rfl)) ?_
    refine sq_plain rfl rfl rfl (w_addi rfl (ev_tmp rfl) ev_ci (by first | omega | ((try simp only [List.length_map, List.length_take, List.length_cons, List.length_nil, chunks_len, szR] at *); omega) | (have hc2 := hc; simp only [Bool.and_eq_true, Bool.or_eq_true, Bool.or_eq_false_iff, Bool.and_eq_false_iff, Bool.not_eq_true', Bool.not_eq_false', decide_eq_true_eq, decide_eq_false_iff_not, beq_iff_eq, bne_iff_ne, List.length_map, List.length_take] at hc2; omega))) ?_
    refine sq_plain rfl rfl rfl (w_assign rfl (ev_tmp rfl)) ?_
    refine sq_nil ?_
    refine awp_region ?_
    refine sq_plain rfl rfl rfl (w_move rfl (ev_tmp rfl)) ?_
    refine sq_plain rfl rfl rfl (w_move rfl (ev_tmp rfl)) ?_
    refine sq_plain rfl rfl rfl (w_aidx 0 rfl Try.underlying53 Try.sizeOf153 (ev_tmp rfl) rfl (ev_tmp rfl) (by omega) (by rw [nrows_jlen hp hx (hl.trans (midN_len hinv.1).symm), midN_len hinv.1]; omega)) ?_
    refine sq_plain rfl rfl rfl (w_fldX 0 rfl Try.underlying153 rfl Try.sizeOf151 (ev_tmp rfl) rfl rfl (app_get (nrows_tlen hp hx))) ?_
    refine sq_plain rfl rfl rfl (w_loadXf 0 rfl (ev_tmp rfl) rfl Try.isAgg151 (app_get (nrows_tlen hp hx)) rfl) ?_
    refine sq_plain rfl rfl rfl (w_move rfl (ev_tmp rfl)) ?_
    refine sq_callG [1] rfl rfl rfl rfl Try.call184 rfl (markVerS_spec _ _ _ (by first | assumption | first | omega | (refine ⟨by omega, ?_⟩; simp only [marks_len] at *; omega))) (evl_cons (ev_tmp rfl) (evl_cons (ev_tmp rfl) evl_nil)) rfl ?_
    intro x26 ok26
    refine sq_plain rfl rfl rfl (w_assign rfl (ev_tmp rfl)) ?_
    refine sq_nil ?_
    refine AWP.le (le_pick [1, 0] rfl) ?_
    refine AWP.le (le_tail 1 (t := nin TCell.ow (midN TCell.markE TCell.markEN l k (i + 1)) xs) ((hstep ▸ nin_set (ow := TCell.ow) (p' := TCell.markE p0 c) hp hx))) ?_
    refine awp_region ?_
    refine sq_plain rfl rfl rfl (w_move rfl (ev_tmp rfl)) ?_
    refine sq_plain rfl rfl rfl (w_addi rfl (ev_tmp rfl) ev_ci (by first | omega | ((try simp only [List.length_map, List.length_take, List.length_cons, List.length_nil, chunks_len, szR] at *); omega) | (have hc2 := hc; simp only [Bool.and_eq_true, Bool.or_eq_true, Bool.or_eq_false_iff, Bool.and_eq_false_iff, Bool.not_eq_true', Bool.not_eq_false', decide_eq_true_eq, decide_eq_false_iff_not, beq_iff_eq, bne_iff_ne, List.length_map, List.length_take] at hc2; omega))) ?_
    refine sq_plain rfl rfl rfl (w_assign rfl (ev_tmp rfl)) ?_
    refine sq_nil ?_
    refine round_end2 i c (i + 1) (TCell.markEN p0 c) ?_ ?_ (le_eq (Eq.trans (by exact congrArg (fun z => Own.arr _ _ _ z :: _) ((nrows_join hp hx).trans (congrArg (fun z => nrows TCell.ocs z xs) hstep))) (List.append_nil _).symm) ⟨rfl, rfl, rfl, rfl, trivial⟩)
    · exact ⟨by omega, by rw [countN_snoc hq, hinv.2]⟩
    · omega
  · intro h9
    have k9 := of_decide_eq_false h9; try simp only [List.length_map] at k9
    simp only [nrows_len (hl.trans (midN_len hinv.1).symm), midN_len hinv.1] at k9
    have hge : l.length ≤ i := by omega
    rw [midN_end hge]
    refine awp_exit ?_
    refine awp_seq ?_
    refine awp_region ?_
    refine sq_plain rfl rfl rfl (w_move rfl (ev_tmp rfl)) ?_
    refine sq_plain rfl rfl rfl (w_assign rfl (ev_tmp rfl)) ?_
    refine sq_nil ?_
    refine awp_ret ?_
    exact retGT [0] 0 (nin TCell.ow (marksN TCell.markE TCell.markEN l k) xs) [] () (trivial) rfl (show List.Perm (nin TCell.ow (marksN TCell.markE TCell.markEN l k) xs) ((nin TCell.ow (marksN TCell.markE TCell.markEN l k) xs) ++ []) from perm_nil) (by rfl) (resR rfl (rv_tmp' rfl (by exact congrArg AV.int (by rw [hinv.2, List.take_of_length_le hge]))))
theorem heldCellS_spec (l : List TCell) (k : Int) (h : 0 ≤ k ∧ countN TCell.markEN l k ≤ 4611686018427387904) : FSpec Try.prog 83 [AV.list 2 ((marksN TCell.markE TCell.markEN l k).map TCell.cs), AV.int k] (AV.int (countN TCell.markEN l k)) := by
  have hll := countN_len TCell.markEN_le1 l k
  refine spec_of_awp Try.func83 rfl Try.ntmps83 rfl ?_
  refine awp_seq ?_
  refine awp_region ?_
  refine sq_plain rfl rfl rfl (w_assign rfl ev_ci) ?_
  refine sq_nil ?_
  refine awp_seq ?_
  refine awp_seq ?_
  refine awp_region ?_
  refine sq_plain rfl rfl rfl (w_assign rfl ev_ci) ?_
  refine sq_nil ?_
  refine awp_block ?_
  refine awp_loop_i2 [(0, _)] _ (fun (i : Nat) (c : Int) => i ≤ l.length ∧ c = countN TCell.markEN (l.take i) k) (fun (i : Nat) (c : Int) => []) (fun (i : Nat) (c : Int) => [(1, AV.int c), (5, AV.int i)]) (fun (i : Nat) (c : Int) => l.length - i) (0) (k) ?_ (le_env ⟨rfl, rfl, rfl, trivial⟩) ?_
  · exact ⟨Nat.zero_le _, rfl⟩
  intro i c hinv
  refine awp_seq ?_
  refine awp_seq ?_
  refine awp_region ?_
  refine sq_plain rfl rfl rfl (w_move rfl (ev_tmp rfl)) ?_
  refine sq_plain rfl rfl rfl (w_move rfl (ev_tmp rfl)) ?_
  refine sq_plain rfl rfl rfl (w_llen rfl Try.underlying53 (ev_tmp rfl)) ?_
  refine sq_plain rfl rfl rfl (w_lss rfl (ev_tmp rfl) (ev_tmp rfl)) ?_
  refine sq_nil ?_
  refine awp_cond (ev_tmp rfl) ?_ ?_
  · intro h9
    have k9 := of_decide_eq_true h9; try simp only [List.length_map] at k9
    simp only [List.length_map, marksN_len] at k9
    have hlt : i < l.length := by omega
    obtain ⟨p0, hq⟩ := get_some hlt
    have hx := marksN_get (mk := TCell.markE) (mn := TCell.markEN) (k := k) hq
    rw [← hinv.2] at hx
    have hct := countN_take TCell.markEN_le l (i + 1) k
    have hc0 := countN_take TCell.markEN_le l i k
    rw [countN_snoc hq, ← hinv.2] at hct
    rw [← hinv.2] at hc0
    have hce : TCell.markEN p0 c = c + 1 + 3 * p0.Vers.length := rfl
    refine awp_skip ?_
    refine awp_seq ?_
    refine awp_block ?_
    refine awp_seq ?_
    refine awp_seq ?_
    refine awp_region_any (by kernel_rfl) (by kernel_rfl) rfl ?_
    refine ch_plain rfl rfl (w_move rfl (ev_tmp rfl)) ?_
    refine ch_plain rfl rfl (w_move rfl (ev_tmp rfl)) ?_
    refine ch_plain rfl rfl (w_idxm rfl Try.underlying53 Try.sizeOf153 (ev_tmp rfl) (ev_tmp rfl) hx (by first | omega | ((try simp only [List.length_map, List.length_take, List.length_cons, List.length_nil, chunks_len, szR] at *); omega) | (have hc2 := hc; simp only [Bool.and_eq_true, Bool.or_eq_true, Bool.or_eq_false_iff, Bool.and_eq_false_iff, Bool.not_eq_true', Bool.not_eq_false', decide_eq_true_eq, decide_eq_false_iff_not, beq_iff_eq, bne_iff_ne, List.length_map, List.length_take] at hc2; omega))) ?_
    refine ch_plain rfl rfl (w_fldE rfl Try.underlying153 rfl Try.sizeOf9 (ev_tmp rfl) rfl) ?_
    refine ch_plain rfl rfl (w_loadE1 rfl (ev_tmp rfl) Try.isAgg9 rfl) ?_
    refine ch_plain rfl rfl (w_move rfl (ev_tmp rfl)) ?_
    refine ch_plain rfl rfl (w_call rfl Try.call183 rfl (markText_spec _ (by omega)) (evl_cons (ev_tmp rfl) evl_nil)) ?_
    refine ch_plain rfl rfl (w_sneq rfl (ev_tmp rfl) (ev_tmp rfl)) ?_
    refine ch_nil ?_
    refine awp_cond (ev_tmp rfl) ?_ ?_
    · intro h19
      exfalso; revert h19; simp [TCell.markE]
    · intro h19
      refine awp_skip ?_
      refine awp_seq ?_
      refine awp_region ?_
      refine sq_plain rfl rfl rfl (w_move rfl (ev_tmp rfl)) ?_
      refine sq_plain rfl rfl rfl (w_addi rfl (ev_tmp rfl) ev_ci (by first | omega | ((try simp only [List.length_map, List.length_take, List.length_cons, List.length_nil, chunks_len, szR] at *); omega) | (have hc2 := hc; simp only [Bool.and_eq_true, Bool.or_eq_true, Bool.or_eq_false_iff, Bool.and_eq_false_iff, Bool.not_eq_true', Bool.not_eq_false', decide_eq_true_eq, decide_eq_false_iff_not, beq_iff_eq, bne_iff_ne, List.length_map, List.length_take] at hc2; omega))) ?_
      refine sq_plain rfl rfl rfl (w_assign rfl (ev_tmp rfl)) ?_
      refine sq_nil ?_
      refine awp_seq ?_
      refine awp_region ?_
      refine sq_plain rfl rfl rfl (w_move rfl (ev_tmp rfl)) ?_
      refine sq_plain rfl rfl rfl (w_move rfl (ev_tmp rfl)) ?_
      refine sq_plain rfl rfl rfl (w_idxm rfl Try.underlying53 Try.sizeOf153 (ev_tmp rfl) (ev_tmp rfl) hx (by first | omega | ((try simp only [List.length_map, List.length_take, List.length_cons, List.length_nil, chunks_len, szR] at *); omega) | (have hc2 := hc; simp only [Bool.and_eq_true, Bool.or_eq_true, Bool.or_eq_false_iff, Bool.and_eq_false_iff, Bool.not_eq_true', Bool.not_eq_false', decide_eq_true_eq, decide_eq_false_iff_not, beq_iff_eq, bne_iff_ne, List.length_map, List.length_take] at hc2; omega))) ?_
      refine sq_plain rfl rfl rfl (w_fldE rfl Try.underlying153 rfl Try.sizeOf151 (ev_tmp rfl) rfl) ?_
      refine sq_plain rfl rfl rfl (w_loadE1 rfl (ev_tmp rfl) Try.isAgg151 rfl) ?_
      refine sq_plain rfl rfl rfl (w_move rfl (ev_tmp rfl)) ?_
      refine sq_plain rfl rfl rfl (w_call rfl Try.call185 rfl (heldVerS_spec p0.Vers.length (c + 1) (by omega)) (evl_cons (ev_tmp rfl) (evl_cons (ev_tmp rfl) evl_nil))) ?_
      refine sq_plain rfl rfl rfl (w_assign rfl (ev_tmp rfl)) ?_
      refine sq_nil ?_
      refine awp_seq ?_
      refine awp_region ?_
      refine sq_plain rfl rfl rfl (w_move rfl (ev_tmp rfl)) ?_
      refine sq_plain rfl rfl rfl (w_lss rfl (ev_tmp rfl) ev_ci) ?_
      refine sq_nil ?_
      refine awp_cond (ev_tmp rfl) ?_ ?_
      · intro h30
        have k30 := of_decide_eq_true h30; try simp only [List.length_map] at k30
        exfalso; have := of_decide_eq_true h30; omega
      · intro h30
        have k30 := of_decide_eq_false h30; try simp only [List.length_map] at k30
        refine awp_skip ?_
        refine awp_region ?_
        refine sq_plain rfl rfl rfl (w_move rfl (ev_tmp rfl)) ?_
        refine sq_plain rfl rfl rfl (w_addi rfl (ev_tmp rfl) ev_ci (by first | omega | ((try simp only [List.length_map, List.length_take, List.length_cons, List.length_nil, chunks_len, szR] at *); omega) | (have hc2 := hc; simp only [Bool.and_eq_true, Bool.or_eq_true, Bool.or_eq_false_iff, Bool.and_eq_false_iff, Bool.not_eq_true', Bool.not_eq_false', decide_eq_true_eq, decide_eq_false_iff_not, beq_iff_eq, bne_iff_ne, List.length_map, List.length_take] at hc2; omega))) ?_
        refine sq_plain rfl rfl rfl (w_assign rfl (ev_tmp rfl)) ?_
        refine sq_nil ?_
        refine round_end2 i c (i + 1) (TCell.markEN p0 c) ?_ ?_ (le_env ⟨rfl, rfl, rfl, trivial⟩)
        · exact ⟨by omega, by rw [countN_snoc hq, hinv.2]⟩
        · omega
  · intro h9
    have k9 := of_decide_eq_false h9; try simp only [List.length_map] at k9
    simp only [List.length_map, marksN_len] at k9
    have hge : l.length ≤ i := by omega
    refine awp_exit ?_
    refine awp_seq ?_
    refine awp_region ?_
    refine sq_plain rfl rfl rfl (w_move rfl (ev_tmp rfl)) ?_
    refine sq_plain rfl rfl rfl (w_assign rfl (ev_tmp rfl)) ?_
    refine sq_nil ?_
    refine awp_ret ?_
    exact retR rfl (rv_tmp' rfl (by exact congrArg AV.int (by rw [hinv.2, List.take_of_length_le hge])))
theorem putGood_own (q : List TCell) (x : TFeedItem) (hq : goodCells q = true) (hx : goodItem x = true) : GSpec Try.prog 60 [AV.list 2 (q.map TCell.cs), AV.list 3 ((wOf x).map TWrite.cs), AV.int x.Time] [] (fun y : Value × List Value => y.2.length = (putCells q (wOf x) x.Time).1.length) (fun y => .arr y.1 153 2 (nrows TCell.ocs (putCells q (wOf x) x.Time).1 y.2) :: nin TCell.ow (putCells q (wOf x) x.Time).1 y.2) (fun y => AV.tup [AV.is y.1, AV.bool (putCells q (wOf x) x.Time).2]) := by
  have h := good_size hq
  have := putCellsS_own q (wOf x) x.Time (by omega) (wOf_size hx)
  rw [putS_eq hq hx] at this
  exact this
theorem feedCellsS_own (l : List TCell) (w : List TFeedItem) (g : Int) (hs : sizeL TCell.size l ≤ 1048576) (hw : sizeL TFeedItem.size w ≤ 1048576) : GSpec Try.prog 75 [AV.list 2 (l.map TCell.cs), AV.list 5 (w.map TFeedItem.cs), AV.int g] [] (fun x : Value × List Value => x.2.length = (feedCellsS l w g).1.length) (fun x => .arr x.1 153 2 (nrows TCell.ocs (feedCellsS l w g).1 x.2) :: nin TCell.ow (feedCellsS l w g).1 x.2) (fun x => AV.tup [AV.is x.1, AV.bool (feedCellsS l w g).2]) := by
  have hwl : w.length ≤ 1048576 := Nat.le_trans sizeL_len hw
  refine gspec_of_awp Try.func75 rfl Try.ntmps75 rfl ?_
  refine awp_seq ?_
  refine awp_region ?_
  refine sq_plain rfl rfl rfl (w_assign rfl ev_cnils) ?_
  refine sq_plain rfl rfl rfl (w_assign rfl ev_cb) ?_
  refine sq_nil ?_
  refine awp_seq ?_
  refine awp_seq ?_
  refine awp_region ?_
  refine sq_plain rfl rfl rfl (w_move rfl (ev_tmp rfl)) ?_
  refine sq_plain rfl rfl rfl (w_call rfl Try.call143 rfl (l3Good_spec _ (by first | assumption | omega)) (evl_cons (ev_tmp rfl) evl_nil)) ?_
  refine sq_plain rfl rfl rfl (w_not rfl (ev_tmp rfl)) ?_
  refine sq_plain rfl rfl rfl (w_move rfl (ev_tmp rfl)) ?_
  refine sq_grd rfl rfl (guard_f rfl rfl rfl) (fun hc => w_move rfl (ev_tmp rfl)) ?_
  refine sq_grd rfl rfl (guard_f rfl rfl rfl) (fun hc => w_call rfl Try.call176 rfl (l23Feed_spec _ (by assumption)) (evl_cons (ev_whn rfl hc) evl_nil)) ?_
  refine sq_grd rfl rfl (guard_f rfl rfl rfl) (fun hc => w_not rfl (ev_whn rfl hc)) ?_
  refine sq_plain rfl rfl rfl (w_or rfl (ev_tmp rfl) (evif_w rfl)) ?_
  refine sq_plain rfl rfl rfl (w_move rfl (ev_tmp rfl)) ?_
  refine sq_grd rfl rfl (guard_f rfl rfl rfl) (fun hc => w_move rfl (ev_tmp rfl)) ?_
  refine sq_grd rfl rfl (guard_f rfl rfl rfl) (fun hc => w_call rfl Try.call110 rfl (l1In_spec _ _ _) (evl_cons (ev_whn rfl hc) (evl_cons ev_ci (evl_cons ev_ci evl_nil)))) ?_
  refine sq_grd rfl rfl (guard_f rfl rfl rfl) (fun hc => w_not rfl (ev_whn rfl hc)) ?_
  refine sq_plain rfl rfl rfl (w_or rfl (ev_tmp rfl) (evif_w rfl)) ?_
  refine sq_nil ?_
  refine awp_cond (ev_tmp rfl) ?_ ?_
  · intro h24
    have he : feedCellsS l w g = ([], false) := by unfold feedCellsS; rw [if_pos h24]
    rw [he]
    refine awp_seq ?_
    refine awp_region ?_
    refine sq_emptyarr rfl rfl rfl rfl Try.underlying53 Try.sizeOf153 ?_
    intro v25
    refine sq_plain rfl rfl rfl (w_assign rfl (ev_tmp rfl)) ?_
    refine sq_plain rfl rfl rfl (w_assign rfl ev_cb) ?_
    refine sq_nil ?_
    refine awp_ret ?_
    first | exact retG [0] (v25, []) (rfl) rfl (by rfl) (resN rfl (by decide) (rv_cons (rv_tmp' rfl (by rfl)) (rv_cons (rv_tmp' rfl (by rfl)) rv_nil))) | exact retG [0] (v25, xs) (hinv.2.1) rfl (by rfl) (resN rfl (by decide) (rv_cons (rv_tmp' rfl (by rfl)) (rv_cons (rv_tmp' rfl (by rfl)) rv_nil)))
  · intro h24
    have hg := h24
    simp only [Bool.or_eq_false_iff, Bool.not_eq_false'] at hg
    rw [← goodCells_eq, ← goodFeed_eq] at hg
    have he : feedCellsS l w g = feedRes l g w := by unfold feedCellsS; rw [if_neg (by rw [h24]; decide)]
    refine awp_skip ?_
    refine awp_seq ?_
    refine awp_region ?_
    refine sq_plain rfl rfl rfl (w_move rfl (ev_tmp rfl)) ?_
    refine sq_callGT [] 0 1 ([]) ([]) (fun zz => nin TCell.ow l zz.2) rfl rfl rfl rfl Try.call169 rfl rfl (show List.Perm ([]) (([]) ++ ([])) from List.Perm.refl _) (l3Own_own l (by omega)) (evl_cons (ev_tmp rfl) evl_nil) (fun a => perm_lin) ?_
    intro x27 ok27
    refine sq_plain rfl rfl rfl (w_assign rfl (ev_tmp rfl)) ?_
    refine sq_nil ?_
    refine awp_seq ?_
    refine awp_seq ?_
    refine awp_region ?_
    refine sq_plain rfl rfl rfl (w_assign rfl ev_ci) ?_
    refine sq_nil ?_
    refine awp_block ?_
    refine awp_loop_i4 [(1, _), (2, _)] [] (fun (i : Nat) (v : Value) (q : List TCell) (xs : List Value) => i ≤ w.length ∧ xs.length = q.length ∧ goodCells q = true ∧ feedRes l g w = feedRes q g (w.drop i)) (fun (i : Nat) (v : Value) (q : List TCell) (xs : List Value) => [.arr v 153 2 (nrows TCell.ocs q xs)] ++ (nin TCell.ow q xs)) (fun (i : Nat) (v : Value) (q : List TCell) (xs : List Value) => [(8, AV.is v), (9, AV.int i)]) (fun (i : Nat) (v : Value) (q : List TCell) (xs : List Value) => w.length - i) (0) (x27.1) (l) (x27.2) ?_ (le_eq (by rw [List.append_nil]; rfl) ⟨rfl, rfl, rfl, rfl, trivial⟩) ?_
    · exact ⟨Nat.zero_le _, ok27, hg.1.1, rfl⟩
    intro i v q xs hinv
    have hlen := hinv.2.1
    have hqs := good_size hinv.2.2.1
    refine awp_own (List.append_nil _) ?_
    refine awp_seq ?_
    refine awp_seq ?_
    refine awp_region ?_
    refine sq_plain rfl rfl rfl (w_move rfl (ev_tmp rfl)) ?_
    refine sq_plain rfl rfl rfl (w_move rfl (ev_tmp rfl)) ?_
    refine sq_plain rfl rfl rfl (w_llen rfl Try.underlying87 (ev_tmp rfl)) ?_
    refine sq_plain rfl rfl rfl (w_lss rfl (ev_tmp rfl) (ev_tmp rfl)) ?_
    refine sq_nil ?_
    refine awp_cond (ev_tmp rfl) ?_ ?_
    · intro h31
      have k31 := of_decide_eq_true h31; try simp only [List.length_map] at k31
      have hlt : i < w.length := by omega
      obtain ⟨x, hx⟩ := get_some hlt
      have hgi := feed_item hg.1.2 hx
      have hws := wOf_size hgi
      refine awp_skip ?_
      refine awp_seq ?_
      refine awp_block ?_
      refine awp_seq ?_
      refine awp_seq ?_
      refine awp_region ?_
      refine sq_plain rfl rfl rfl (w_move rfl (ev_tmp rfl)) ?_
      refine sq_plain rfl rfl rfl (w_move rfl (ev_tmp rfl)) ?_
      refine sq_plain rfl rfl rfl (w_idxm rfl Try.underlying87 Try.sizeOf179 (ev_tmp rfl) (ev_tmp rfl) hx (by first | omega | ((try simp only [List.length_map, List.length_take, List.length_cons, List.length_nil, chunks_len, szR] at *); omega) | (have hc2 := hc; simp only [Bool.and_eq_true, Bool.or_eq_true, Bool.or_eq_false_iff, Bool.and_eq_false_iff, Bool.not_eq_true', Bool.not_eq_false', decide_eq_true_eq, decide_eq_false_iff_not, beq_iff_eq, bne_iff_ne, List.length_map, List.length_take] at hc2; omega))) ?_
      refine sq_plain rfl rfl rfl (w_fldE rfl Try.underlying179 rfl Try.sizeOf3 (ev_tmp rfl) rfl) ?_
      refine sq_plain rfl rfl rfl (w_loadE1 rfl (ev_tmp rfl) Try.isAgg3 rfl) ?_
      refine sq_plain rfl rfl rfl (w_move rfl (ev_tmp rfl)) ?_
      refine sq_plain rfl rfl rfl (w_neq rfl (ev_tmp rfl) (ev_tmp rfl)) ?_
      refine sq_nil ?_
      refine awp_cond (ev_tmp rfl) ?_ ?_
      · intro h40
        have k40 := ne_of_bne h40; try simp only [List.length_map] at k40
        refine awp_exit ?_
        refine awp_region ?_
        refine sq_plain rfl rfl rfl (w_move rfl (ev_tmp rfl)) ?_
        refine sq_plain rfl rfl rfl (w_addi rfl (ev_tmp rfl) ev_ci (by first | omega | ((try simp only [List.length_map, List.length_take, List.length_cons, List.length_nil, chunks_len, szR] at *); omega) | (have hc2 := hc; simp only [Bool.and_eq_true, Bool.or_eq_true, Bool.or_eq_false_iff, Bool.and_eq_false_iff, Bool.not_eq_true', Bool.not_eq_false', decide_eq_true_eq, decide_eq_false_iff_not, beq_iff_eq, bne_iff_ne, List.length_map, List.length_take] at hc2; omega))) ?_
        refine sq_plain rfl rfl rfl (w_assign rfl (ev_tmp rfl)) ?_
        refine sq_nil ?_
        refine round_end4 i v q xs (i + 1) (v) (q) (xs) ?_ ?_ (Le.trans (le_pick [0] rfl) (le_eq (Eq.trans (by rfl) (List.append_nil _).symm) ⟨rfl, rfl, rfl, rfl, trivial⟩))
        · exact ⟨by omega, hlen, hinv.2.2.1, feedRes_skip hinv.2.2.2 hx k40⟩
        · omega
      · intro h40
        have k40 := eq_of_bne_false h40; try simp only [List.length_map] at k40
        refine awp_skip ?_
        refine awp_seq ?_
        refine awp_region_mix _ [(0, false), (1, false), (2, false), (3, false), (4, false), (5, false), (6, false), (7, false), (8, false), (9, false), (10, false), (11, false), (12, false), (13, false), (14, false), (15, false), (16, false), (17, false), (18, false), (19, false), (20, false), (21, false), (22, false), (23, true), (24, false), (25, false), (26, false), (27, false)] (by kernel_rfl) (by kernel_rfl) rfl (invx_take 1) ?_
        refine bc_plain rfl rfl rfl (fun ext => w_move rfl (ev_tmp rfl)) ?_
        refine bc_plain rfl rfl rfl (fun ext => w_move rfl (ev_tmp rfl)) ?_
        refine bc_plain rfl rfl rfl (fun ext => w_move rfl (ev_tmp rfl)) ?_
        refine bc_plain rfl rfl rfl (fun ext => w_idxm rfl Try.underlying87 Try.sizeOf179 (ev_tmp rfl) (ev_tmp rfl) hx (by first | omega | ((try simp only [List.length_map, List.length_take, List.length_cons, List.length_nil, chunks_len, szR] at *); omega) | (have hc2 := hc; simp only [Bool.and_eq_true, Bool.or_eq_true, Bool.or_eq_false_iff, Bool.and_eq_false_iff, Bool.not_eq_true', Bool.not_eq_false', decide_eq_true_eq, decide_eq_false_iff_not, beq_iff_eq, bne_iff_ne, List.length_map, List.length_take] at hc2; omega))) ?_
        refine bc_plain rfl rfl rfl (fun ext => w_fldE rfl Try.underlying179 rfl Try.sizeOf9 (ev_tmp rfl) rfl) ?_
        refine bc_plain rfl rfl rfl (fun ext => w_loadE1 rfl (ev_tmp rfl) Try.isAgg9 rfl) ?_
        refine bc_plain rfl rfl rfl (fun ext => w_move rfl (ev_tmp rfl)) ?_
        refine bc_plain rfl rfl rfl (fun ext => w_move rfl (ev_tmp rfl)) ?_
        refine bc_plain rfl rfl rfl (fun ext => w_idxm rfl Try.underlying87 Try.sizeOf179 (ev_tmp rfl) (ev_tmp rfl) hx (by first | omega | ((try simp only [List.length_map, List.length_take, List.length_cons, List.length_nil, chunks_len, szR] at *); omega) | (have hc2 := hc; simp only [Bool.and_eq_true, Bool.or_eq_true, Bool.or_eq_false_iff, Bool.and_eq_false_iff, Bool.not_eq_true', Bool.not_eq_false', decide_eq_true_eq, decide_eq_false_iff_not, beq_iff_eq, bne_iff_ne, List.length_map, List.length_take] at hc2; omega))) ?_
        refine bc_plain rfl rfl rfl (fun ext => w_fldE rfl Try.underlying179 rfl Try.sizeOf9 (ev_tmp rfl) rfl) ?_
        refine bc_plain rfl rfl rfl (fun ext => w_loadE1 rfl (ev_tmp rfl) Try.isAgg9 rfl) ?_
        refine bc_plain rfl rfl rfl (fun ext => w_move rfl (ev_tmp rfl)) ?_
        refine bc_plain rfl rfl rfl (fun ext => w_move rfl (ev_tmp rfl)) ?_
        refine bc_plain rfl rfl rfl (fun ext => w_idxm rfl Try.underlying87 Try.sizeOf179 (ev_tmp rfl) (ev_tmp rfl) hx (by first | omega | ((try simp only [List.length_map, List.length_take, List.length_cons, List.length_nil, chunks_len, szR] at *); omega) | (have hc2 := hc; simp only [Bool.and_eq_true, Bool.or_eq_true, Bool.or_eq_false_iff, Bool.and_eq_false_iff, Bool.not_eq_true', Bool.not_eq_false', decide_eq_true_eq, decide_eq_false_iff_not, beq_iff_eq, bne_iff_ne, List.length_map, List.length_take] at hc2; omega))) ?_
        refine bc_plain rfl rfl rfl (fun ext => w_fldE rfl Try.underlying179 rfl Try.sizeOf4 (ev_tmp rfl) rfl) ?_
        refine bc_plain rfl rfl rfl (fun ext => w_loadE1 rfl (ev_tmp rfl) Try.isAgg4 rfl) ?_
        refine bc_plain rfl rfl rfl (fun ext => w_build (places := #[(0, 1), (1, 1), (2, 1)]) rfl Try.underlying65 Try.zeroValue65 (fun w => by kernel_rfl) rfl (bp_cons (ev_tmp rfl) (as_str _) (bp_cons (ev_tmp rfl) (as_str _) (bp_cons (ev_tmp rfl) (as_bool _) bp_nil))) rfl) ?_
        refine bc_plain rfl rfl rfl (fun ext => w_bslice rfl Try.underlying60 Try.sizeOf65 Try.zeroValue65 rfl rfl rfl rfl (bp_cons (ev_tmp rfl) (as_agg _) bp_nil) rfl rfl) ?_
        refine bc_plain rfl rfl rfl (fun ext => w_move rfl (ev_tmp rfl)) ?_
        refine bc_plain rfl rfl rfl (fun ext => w_move rfl (ev_tmp rfl)) ?_
        refine bc_plain rfl rfl rfl (fun ext => w_idxm rfl Try.underlying87 Try.sizeOf179 (ev_tmp rfl) (ev_tmp rfl) hx (by first | omega | ((try simp only [List.length_map, List.length_take, List.length_cons, List.length_nil, chunks_len, szR] at *); omega) | (have hc2 := hc; simp only [Bool.and_eq_true, Bool.or_eq_true, Bool.or_eq_false_iff, Bool.and_eq_false_iff, Bool.not_eq_true', Bool.not_eq_false', decide_eq_true_eq, decide_eq_false_iff_not, beq_iff_eq, bne_iff_ne, List.length_map, List.length_take] at hc2; omega))) ?_
        refine bc_plain rfl rfl rfl (fun ext => w_fldE rfl Try.underlying179 rfl Try.sizeOf3 (ev_tmp rfl) rfl) ?_
        refine bc_plain rfl rfl rfl (fun ext => w_loadE1 rfl (ev_tmp rfl) Try.isAgg3 rfl) ?_
        refine bc_eff rfl rfl rfl (opE_midT 1 1 (fun zz => nin TCell.ow (putCells q (wOf x) x.Time).1 zz.2 ++ (nin TCell.ow q xs)) (fun zz => List.Perm.refl _) (opE_callB [] rfl Try.call60 rfl (putGood_own q x hinv.2.2.1 hgi) rfl (evlb_cons (evb_lt (ev_tmp rfl) (nin_lend TCell.lcM (by first | exact hlen | exact hlen.trans (marksN_len _ _).symm) 0 rfl (fun o ho => List.mem_of_mem_drop (i := 1) (show o ∈ nin TCell.ow q xs from by first | exact ho | exact List.mem_append_left _ ho | exact List.mem_append_right _ ho | exact List.mem_append_right _ (List.mem_append_left _ ho) | exact List.mem_append_right _ (List.mem_append_right _ ho))))) (evlb_cons (evb (ev_tmp rfl)) (evlb_cons (evb (ev_tmp rfl)) evlb_nil))) (by first | exact flatO_nil | (intro _; exact flatO_nil) | (intro _; first | exact flat_is _ | exact flat_ik _ _ | exact flat_bool _ | exact flat_str _ | exact flat_nils) | (intro _; refine flat_tup ?_; (repeat (first | exact flatl_nil | (refine flatl_cons (by first | (first | exact flat_is _ | exact flat_ik _ _ | exact flat_bool _ | exact flat_str _ | exact flat_nils) | (refine flat_agg ?_; (repeat (first | exact flatl_nil | (refine flatl_cons (by first | exact flat_is _ | exact flat_ik _ _ | exact flat_bool _ | exact flat_str _ | exact flat_nils) ?_))))) ?_))); done) | (intro _; refine flat_agg ?_; (repeat (first | exact flatl_nil | (refine flatl_cons (by first | exact flat_is _ | exact flat_ik _ _ | exact flat_bool _ | exact flat_str _ | exact flat_nils) ?_))); done) | ((repeat (first | exact flatO_nil | (refine flatO_cons (flatO_box ?_) ?_; (repeat (first | exact flatl_nil | (refine flatl_cons (by first | exact flat_is _ | exact flat_ik _ _ | exact flat_bool _ | exact flat_str _ | exact flat_nils) ?_)))) | (refine flatO_cons (flatO_arr ?_) ?_; (repeat (first | exact flate_nil | (refine flate_map (fun _ => ?_); (first | exact TWrite.flat _ | exact TFeedItem.flat _ | exact TIdx.flat _ | exact TVer.flat _ | (repeat (first | exact flatl_nil | (refine flatl_cons (by first | exact flat_is _ | exact flat_ik _ _ | exact flat_bool _ | exact flat_str _ | exact flat_nils) ?_))))) | (refine flate_rep ?_; (first | exact TWrite.flat _ | exact TFeedItem.flat _ | exact TIdx.flat _ | exact TVer.flat _ | (repeat (first | exact flatl_nil | (refine flatl_cons (by first | exact flat_is _ | exact flat_ik _ _ | exact flat_bool _ | exact flat_str _ | exact flat_nils) ?_))))) | (refine flate_cons ?_ ?_; (first | exact TWrite.flat _ | exact TFeedItem.flat _ | exact TIdx.flat _ | exact TVer.flat _ | (repeat (first | exact flatl_nil | (refine flatl_cons (by first | exact flat_is _ | exact flat_ik _ _ | exact flat_bool _ | exact flat_str _ | exact flat_nils) ?_))))) | refine flate_app ?_ ?_))))); done) | (intro _; (repeat (first | exact flatO_nil | (refine flatO_cons (flatO_box ?_) ?_; (repeat (first | exact flatl_nil | (refine flatl_cons (by first | exact flat_is _ | exact flat_ik _ _ | exact flat_bool _ | exact flat_str _ | exact flat_nils) ?_)))) | (refine flatO_cons (flatO_arr ?_) ?_; (repeat (first | exact flate_nil | (refine flate_map (fun _ => ?_); (first | exact TWrite.flat _ | exact TFeedItem.flat _ | exact TIdx.flat _ | exact TVer.flat _ | (repeat (first | exact flatl_nil | (refine flatl_cons (by first | exact flat_is _ | exact flat_ik _ _ | exact flat_bool _ | exact flat_str _ | exact flat_nils) ?_))))) | (refine flate_rep ?_; (first | exact TWrite.flat _ | exact TFeedItem.flat _ | exact TIdx.flat _ | exact TVer.flat _ | (repeat (first | exact flatl_nil | (refine flatl_cons (by first | exact flat_is _ | exact flat_ik _ _ | exact flat_bool _ | exact flat_str _ | exact flat_nils) ?_))))) | (refine flate_cons ?_ ?_; (first | exact TWrite.flat _ | exact TFeedItem.flat _ | exact TIdx.flat _ | exact TVer.flat _ | (repeat (first | exact flatl_nil | (refine flatl_cons (by first | exact flat_is _ | exact flat_ik _ _ | exact flat_bool _ | exact flat_str _ | exact flat_nils) ?_))))) | refine flate_app ?_ ?_))))); done)) (fun x => flat_tup (flatC_cons (flat_is _) (flatC_cons (flat_bool _) flatC_nil))) (fun x => flatO_cons (flatO_arr (nrows_flat TCell.flatC _ _)) (nin_flat TCell.flatW _ _)))) (fun a _ => (by first | exact invx_mk rfl | exact invx_mk (List.append_assoc _ _ _) | exact invx_all)) ?_
        intro x65 ok65
        refine bc_plain rfl rfl rfl (fun ext => w_move rfl (ev_tmp rfl)) ?_
        refine bc_plain rfl rfl rfl (fun ext => w_extract rfl (ev_tmp rfl) rfl) ?_
        refine bc_plain rfl rfl rfl (fun ext => w_extract rfl (ev_tmp rfl) rfl) ?_
        refine bc_plain rfl rfl rfl (fun ext => w_assign rfl (ev_tmp rfl)) ?_
        refine bc_nil ?_
        refine sq_plain rfl rfl rfl (w_assign rfl (ev_tmp rfl)) ?_
        refine sq_nil ?_
        refine awp_seq ?_
        refine awp_seq ?_
        refine awp_region ?_
        refine sq_plain rfl rfl rfl (w_move rfl (ev_tmp rfl)) ?_
        refine sq_plain rfl rfl rfl (w_not rfl (ev_tmp rfl)) ?_
        refine sq_nil ?_
        refine awp_cond (ev_tmp rfl) ?_ ?_
        · intro h69
          rw [he, feedRes_stop hinv.2.2.2 hx k40 (by simpa using h69)]
          refine awp_seq ?_
          refine awp_region ?_
          refine sq_emptyarr rfl rfl rfl rfl Try.underlying53 Try.sizeOf153 ?_
          intro v70
          refine sq_plain rfl rfl rfl (w_assign rfl (ev_tmp rfl)) ?_
          refine sq_plain rfl rfl rfl (w_assign rfl ev_cb) ?_
          refine sq_nil ?_
          refine awp_ret ?_
          first | exact retG [0] (v70, []) (rfl) rfl (by rfl) (resN rfl (by decide) (rv_cons (rv_tmp' rfl (by rfl)) (rv_cons (rv_tmp' rfl (by rfl)) rv_nil))) | exact retGT [0] 2 (nin TCell.ow q xs) [] (v70, []) (rfl) rfl (show List.Perm (nin TCell.ow q xs) ((nin TCell.ow q xs) ++ []) from perm_nil) (by rfl) (resN rfl (by decide) (rv_cons (rv_tmp' rfl (by rfl)) (rv_cons (rv_tmp' rfl (by rfl)) rv_nil))) | exact retGT [0] 2 (nin TCell.ow q xs) [] (v70, xs) (hinv.2.1) rfl (show List.Perm (nin TCell.ow q xs) ((nin TCell.ow q xs) ++ []) from perm_nil) (by rfl) (resN rfl (by decide) (rv_cons (rv_tmp' rfl (by rfl)) (rv_cons (rv_tmp' rfl (by rfl)) rv_nil)))
        · intro h69
          have h69' : (putCells q (wOf x) x.Time).2 = true := by simpa using h69
          refine awp_skip ?_
          refine AWP.le (le_cut 2 (t := nin TCell.ow (putCells q (wOf x) x.Time).1 x65.2) (r := nin TCell.ow q xs) (List.Perm.refl _)) ?_
          refine awp_region ?_
          refine sq_plain rfl rfl rfl (w_move rfl (ev_tmp rfl)) ?_
          refine sq_plain rfl rfl rfl (w_assign rfl (ev_tmp rfl)) ?_
          refine sq_nil ?_
          refine awp_region ?_
          refine sq_plain rfl rfl rfl (w_move rfl (ev_tmp rfl)) ?_
          refine sq_plain rfl rfl rfl (w_addi rfl (ev_tmp rfl) ev_ci (by first | omega | ((try simp only [List.length_map, List.length_take, List.length_cons, List.length_nil, chunks_len, szR] at *); omega) | (have hc2 := hc; simp only [Bool.and_eq_true, Bool.or_eq_true, Bool.or_eq_false_iff, Bool.and_eq_false_iff, Bool.not_eq_true', Bool.not_eq_false', decide_eq_true_eq, decide_eq_false_iff_not, beq_iff_eq, bne_iff_ne, List.length_map, List.length_take] at hc2; omega))) ?_
          refine sq_plain rfl rfl rfl (w_assign rfl (ev_tmp rfl)) ?_
          refine sq_nil ?_
          refine round_end4 i v q xs (i + 1) (x65.1) ((putCells q (wOf x) x.Time).1) (x65.2) ?_ ?_ (Le.trans (le_pick [0, 0] rfl) (le_dropeq 1 (Eq.trans (by rfl) (List.append_nil _).symm) ⟨rfl, rfl, rfl, rfl, trivial⟩))
          · exact ⟨by omega, ok65, put_good h69', feedRes_put hinv.2.2.2 hx k40 h69'⟩
          · omega
    · intro h31
      have k31 := of_decide_eq_false h31; try simp only [List.length_map] at k31
      have hge : w.length ≤ i := by omega
      have hr := feedRes_end hinv.2.2.2 hge
      rw [he, hr]
      refine awp_exit ?_
      refine awp_seq ?_
      refine awp_region ?_
      refine sq_plain rfl rfl rfl (w_move rfl (ev_tmp rfl)) ?_
      refine sq_plain rfl rfl rfl (w_assign rfl (ev_tmp rfl)) ?_
      refine sq_plain rfl rfl rfl (w_assign rfl ev_cb) ?_
      refine sq_nil ?_
      refine awp_ret ?_
      first | exact retG [0] (v, []) (rfl) rfl (by rfl) (resN rfl (by decide) (rv_cons (rv_tmp' rfl (by rfl)) (rv_cons (rv_tmp' rfl (by rfl)) rv_nil))) | exact retGT [0] 0 (nin TCell.ow q xs) [] (v, []) (rfl) rfl (show List.Perm (nin TCell.ow q xs) ((nin TCell.ow q xs) ++ []) from perm_nil) (by rfl) (resN rfl (by decide) (rv_cons (rv_tmp' rfl (by rfl)) (rv_cons (rv_tmp' rfl (by rfl)) rv_nil))) | exact retGT [0] 0 (nin TCell.ow q xs) [] (v, xs) (hinv.2.1) rfl (show List.Perm (nin TCell.ow q xs) ((nin TCell.ow q xs) ++ []) from perm_nil) (by rfl) (resN rfl (by decide) (rv_cons (rv_tmp' rfl (by rfl)) (rv_cons (rv_tmp' rfl (by rfl)) rv_nil)))
end Go.Proofs.Yteliahajeokciaa

set_option linter.unusedVariables false
set_option linter.unusedSimpArgs false
namespace Go.Proofs.Yteliahajeokciaa
open Go Go.Proofs Go.RowKit Go.Shelf Go.M
attribute [local go_sem] Oper.semAt_some
def upto {α : Type} (f : Nat → α) (k : Nat) : List α := (List.range k).map f
theorem upto_succ {α : Type} (f : Nat → α) (k : Nat) : upto f (k + 1) = upto f k ++ [f k] := by simp [upto, List.range_succ]
theorem upto_length {α : Type} (f : Nat → α) (k : Nat) : (upto f k).length = k := by simp [upto]
def verV (v : TVer) : Value := .agg #[.int .i64 v.Time, .string ⟨v.Val.toArray⟩, .bool v.Gone]
def backF (zs : List TVer) (j : Nat) : Int × TVer := ((zs.length : Int) - 1 - j, zs[zs.length - 1 - j]?.getD default)
/-- The cells of the versions. -/
def VersAt (W : World) (b off : Nat) (zs : List TVer) : Prop := ∀ j v, zs[j]? = some v → W.cell? ⟨b, off + j * 3, none⟩ = some (.int .i64 v.Time) ∧ W.cell? ⟨b, off + j * 3 + 1, none⟩ = some (.string ⟨v.Val.toArray⟩) ∧ W.cell? ⟨b, off + j * 3 + 2, none⟩ = some (.bool v.Gone)
theorem VersAt.below {n₀ : Nat} {A B : World} {b off : Nat} {zs : List TVer} (h : Below n₀ A B) (hb : b < n₀) (k : VersAt A b off zs) : VersAt B b off zs := fun j v hv =>
  let ⟨h1, h2, h3⟩ := k j v hv
  ⟨(h.cell (p := ⟨b, _, none⟩) hb).trans h1, (h.cell (p := ⟨b, _, none⟩) hb).trans h2, (h.cell (p := ⟨b, _, none⟩) hb).trans h3⟩
set_option maxRecDepth 100000 in
set_option maxHeartbeats 2000000 in
theorem back1_in (F : Fence) (n : Nat) (hf : F.fn 294) (hro : F.round = none) (hn : 1 ≤ n) (l Bs n₀ b off cap : Nat) (zs : List TVer) (hreach : zs.length * 32 ≤ 140737488351232) (hb : b < n₀) (J Jx : List (Int × TVer) → World → Prop)
    (hY : ∀ pre x W, J pre W → pre.length < zs.length → YieldAt F (n - 1) Try.prog l #[.int .i64 x.1, verV x.2] W fun e W' =>
      (e = .returned (.bool true) ∧ J (pre ++ [x]) W' ∧ Below n₀ W W') ∨ (e = .returned (.bool false) ∧ Jx (pre ++ [x]) W'))
    (W : World) (hBs : W.cell? ⟨Bs, 0, none⟩ = some (.slice (some ⟨b, off, none⟩) zs.length cap)) (hBn : Bs < n₀) (hc : VersAt W b off zs) (h0 : J [] W) :
    CallsIn F n Try.prog 294 #[.func (.yield l) #[] #[], .pointer (some ⟨Bs, 0, none⟩)] W fun e W' => (∃ v, e = .returned v) ∧
      ((∃ ys, ys = upto (backF zs) zs.length ∧ J ys W') ∨ (∃ pre, (∃ k, k ≤ zs.length ∧ pre = upto (backF zs) k) ∧ Jx pre W')) := by
  refine callsIn_of_wp Try.func294 rfl hf ?_ hro
  simp only [Try.ntmps294, List.size_toArray, List.length_cons, List.length_nil, Nat.reduceAdd, Nat.reduceSub, Array.replicate_succ, Array.replicate_zero, List.push_toArray, List.append_toArray, List.nil_append, List.cons_append]
  gi_wp2
  gi_loopw [3] (fun i wr => ∃ k : Nat, k ≤ zs.length ∧ i = .int .i64 ((zs.length : Int) - 1 - k) ∧ J (upto (backF zs) k) wr ∧ Below n₀ W wr)
    (fun i _ => (intOf i + 1).toNat)
  case atStart => exact ⟨0, Nat.zero_le _, by simp, h0, Below.refl _ _⟩
  case round =>
    obtain ⟨k, hk, rfl, hJs, hnx⟩ := hrel
    have hBs' := (hnx.cell (p := ⟨Bs, 0, none⟩) hBn).trans hBs
    by_cases hlt : k < zs.length
    · have hz : zs[zs.length - 1 - k]? = some (backF zs k).2 := by unfold backF; rw [List.getElem?_eq_getElem (by omega)]; rfl
      obtain ⟨c1, c2, c3⟩ := (hc.below hnx hb) _ _ hz
      obtain ⟨fn, tmps, assign, body, hy, hR⟩ := hY _ (backF zs k) wr hJs (by rw [upto_length]; exact hlt)
      have e0 : ((zs.length : Int) - 1 - k).toNat = zs.length - 1 - k := by omega
      have hge : (0 : Int) ≤ (zs.length : Int) - 1 - k := by omega
      have hltl : (zs.length : Int) - 1 - k < zs.length := by omega
      dsimp only [verV] at hy
      rw [show (backF zs k).1 = (zs.length : Int) - 1 - k from rfl] at hy
      gi_wp2
      refine hR.mono ?_
      rintro e W3 (⟨rfl, hJ3, hk3⟩ | ⟨rfl, hJx3⟩)
      · gi_wp2
        go_roundw
        case rel => exact ⟨k + 1, by omega, by simp; omega, by rw [upto_succ]; exact hJ3, hnx.trans hk3⟩
        case measure => simp [intOf]; omega
      · gi_wp2
        refine bodyPost_ret (results_none rfl _ _ _) rfl ?_
        exact ⟨⟨_, rfl⟩, .inr ⟨_, ⟨k + 1, by omega, (upto_succ _ _).symm⟩, hJx3⟩⟩
    · obtain rfl : k = zs.length := by omega
      gi_wp2
      go_end0
      exact ⟨⟨_, rfl⟩, .inl ⟨_, rfl, hJs⟩⟩
set_option maxRecDepth 100000 in
set_option maxHeartbeats 1000000 in
theorem back1_nil_in (F : Fence) (n : Nat) (hf : F.fn 294) (hro : F.round = none) (l Bs cap : Nat) (oa : Option Addr) (J : List (Int × TVer) → World → Prop) (W : World) (hBs : W.cell? ⟨Bs, 0, none⟩ = some (.slice oa 0 cap)) (h0 : J [] W) :
    CallsIn F n Try.prog 294 #[.func (.yield l) #[] #[], .pointer (some ⟨Bs, 0, none⟩)] W fun e W' => (∃ v, e = .returned v) ∧ J [] W' := by
  refine callsIn_of_wp Try.func294 rfl hf ?_ hro
  simp only [Try.ntmps294, List.size_toArray, List.length_cons, List.length_nil, Nat.reduceAdd, Nat.reduceSub, Array.replicate_succ, Array.replicate_zero, List.push_toArray, List.append_toArray, List.nil_append, List.cons_append]
  gi_wp2
  gi_loopw [3] (fun i wr => i = .int .i64 (-1) ∧ J [] wr) (fun _ _ => 0)
  case atStart => exact ⟨rfl, h0⟩
  case round =>
    obtain ⟨rfl, hJs⟩ := hrel
    gi_wp2
    go_end0
    exact ⟨⟨_, rfl⟩, hJs⟩
set_option maxHeartbeats 1000000 in
theorem back_in (F : Fence) (n : Nat) (hf : F.fn 274) (hro : F.round = none) (a : Option Addr) (len cap : Nat) (w : World) :
    CallsIn F n Try.prog 274 #[.slice a len cap] w fun e w' => e = .returned (.func (.func 294) #[] #[.pointer (some ⟨w.heap.size, 0, none⟩)]) ∧ w' = w.alloc (.cells #[.slice a len cap] 151) := by
  refine callsIn_of_wp Try.func274 rfl hf ?_ hro
  simp only [Try.ntmps274, List.size_toArray, List.length_cons, List.length_nil, Nat.reduceAdd, Nat.reduceSub, Array.replicate_succ, Array.replicate_zero, List.push_toArray, List.append_toArray, List.nil_append, List.cons_append]
  gi_wp2
  go_ret
  exact ⟨rfl, rfl⟩
def VersIn (n₀ : Nat) (W : World) (oa : Option Addr) (zs : List TVer) : Prop := zs = [] ∨ ∃ b off, oa = some ⟨b, off, none⟩ ∧ b < n₀ ∧ VersAt W b off zs
theorem back_stops (F : Fence) (n : Nat) (hf : F.fn 294) (hro : F.round = none) (hn : 1 ≤ n) (Bs n₀ : Nat) (oa : Option Addr) (cap : Nat) (zs : List TVer) (hreach : zs.length * 32 ≤ 140737488351232) (w : World) (hBn : Bs < n₀) (hn₀ : n₀ ≤ w.heap.size)
    (hc : w.cell? ⟨Bs, 0, none⟩ = some (.slice oa zs.length cap)) (hI : VersIn n₀ w oa zs) :
    SeqStopsK F n Try.prog 294 #[.pointer (some ⟨Bs, 0, none⟩)] (fun x : Int × TVer => #[Value.int .i64 x.1, verV x.2]) (Below n₀) (fun ys => ys = upto (backF zs) zs.length) (fun pre => ∃ k, k ≤ zs.length ∧ pre = upto (backF zs) k) zs.length w := fun l J Jx W hW _ _ hY h0 => by
  have hc' := (hW.cell (p := ⟨Bs, 0, none⟩) (show Bs < w.heap.size by omega)).trans hc
  rcases hI with rfl | ⟨b, off, rfl, hb, hcs⟩
  · exact (back1_nil_in F n hf hro l Bs cap oa J W hc' h0).mono fun e W' ⟨he, hj⟩ => ⟨he, .inl ⟨_, rfl, hj⟩⟩
  · exact back1_in F n hf hro hn l Bs n₀ b off cap zs hreach hb J Jx hY W hc' hBn (hcs.below (hW.mono hn₀) hb) h0
end Go.Proofs.Yteliahajeokciaa

set_option linter.unusedVariables false
set_option linter.unusedSimpArgs false
namespace Go.Proofs.Yteliahajeokciaa
open Go Go.Proofs Go.RowKit Go.Shelf Go.M
attribute [local go_sem] Oper.semAt_some
theorem upto_snd (zs : List TVer) (k : Nat) (hk : k ≤ zs.length) : (upto (backF zs) k).map Prod.snd = zs.reverse.take k := by
  apply List.ext_getElem
  · simp [upto]; omega
  · intro i h1 h2
    have : i < zs.length := by simp at h2; omega
    simp [upto, backF]
    rw [List.getElem?_eq_getElem (by omega)]; rfl
theorem val_none {c : TCell} {t : Int} (h : ∀ x ∈ upto (backF c.Vers) c.Vers.length, ¬ x.2.Time ≤ t) : cellVal c t = ([], false) := by
  have e := upto_snd c.Vers c.Vers.length (Nat.le_refl _)
  rw [← List.length_reverse, List.take_length] at e
  unfold cellVal
  rw [← e, List.length_reverse]
  have : ((upto (backF c.Vers) c.Vers.length).map Prod.snd).find? (fun v => decide (v.Time ≤ t)) = none := by
    rw [List.find?_eq_none]
    intro v hv
    obtain ⟨x, hx, rfl⟩ := List.mem_map.1 hv
    simpa using h x hx
  rw [this]
theorem val_some {c : TCell} {t : Int} {k : Nat} {pre : List (Int × TVer)} {x : Int × TVer} (hk : k ≤ c.Vers.length) (he : pre ++ [x] = upto (backF c.Vers) k) (h : ∀ y ∈ pre, ¬ y.2.Time ≤ t) (hx : x.2.Time ≤ t) : cellVal c t = (x.2.Val, !x.2.Gone) := by
  have e := upto_snd c.Vers k hk
  rw [← he, List.map_append] at e
  have e2 : c.Vers.reverse = (pre.map Prod.snd ++ [x.2]) ++ c.Vers.reverse.drop k := by
    have := List.take_append_drop k c.Vers.reverse
    rw [← e] at this; exact this.symm
  unfold cellVal
  have hn : (pre.map Prod.snd).find? (fun v => decide (v.Time ≤ t)) = none := by
    rw [List.find?_eq_none]
    intro v hv
    obtain ⟨y, hy, rfl⟩ := List.mem_map.1 hv
    simpa using h y hy
  rw [e2, List.append_assoc, List.find?_append, hn, Option.none_or, List.singleton_append, List.find?_cons]
  simp only [decide_eq_true hx]
def NoneAt (t : Int) (pre : List (Int × TVer)) : Prop := ∀ x ∈ pre, ¬ x.2.Time ≤ t
def OneAt (t : Int) (pre : List (Int × TVer)) (v : TVer) : Prop := ∃ pre0 i, pre = pre0 ++ [(i, v)] ∧ NoneAt t pre0 ∧ v.Time ≤ t
theorem noneAt_snoc {t : Int} {pre : List (Int × TVer)} {x : Int × TVer} (h : NoneAt t pre) (k : t < x.2.Time) : NoneAt t (pre ++ [x]) := fun y hy => by
  rcases List.mem_append.1 hy with e | e
  · exact h y e
  · simp at e; subst e; omega
set_option maxRecDepth 100000 in
set_option maxHeartbeats 4000000 in
theorem at_in (F : Fence) (n : Nat) (h1f : F.fn 233) (h2f : F.fn 274) (h3f : F.fn 294) (hro : F.round = none) (hn : 6 ≤ n) (c : TCell) (t : Int) (oa : Option Addr) (cap : Nat) (hreach : c.Vers.length * 32 ≤ 140737488351232) (w : World) (hI : VersIn w.heap.size w oa c.Vers) :
    CallsIn F n Try.prog 233 #[.agg #[.string ⟨c.Key.toArray⟩, .slice oa c.Vers.length cap], .int .i64 t] w fun e W' => e = .returned (.tuple #[.string ⟨(cellVal c t).1.toArray⟩, .bool (cellVal c t).2]) ∧ Below w.heap.size w W' := by
  have h1 : 1 ≤ n := by omega
  refine callsIn_of_wp_marks Try.func233 rfl h1f ?_ hro
  simp only [Try.ntmps233, List.size_toArray, List.length_cons, List.length_nil, Nat.reduceAdd, Nat.reduceSub, Array.replicate_succ, Array.replicate_zero, List.push_toArray, List.append_toArray, List.nil_append, List.cons_append]
  gi_wp2_with (gi_at_call 274; refine (back_in F (n - 1) h2f hro _ _ _ _).mono ?_; rintro e w' ⟨rfl, rfl⟩)
  have b3 := (((Boxed.new (w.alloc (.cells #[.string ⟨c.Key.toArray⟩, .slice oa c.Vers.length cap] 153)) 3 (.int .i64 t)).alloc (.cells #[.string { data := #[] }] 9)).alloc (.cells #[.bool false] 4)).alloc (.cells #[.slice oa c.Vers.length cap] 151)
  have b4 := ((Boxed.new ((w.alloc (.cells #[.string ⟨c.Key.toArray⟩, .slice oa c.Vers.length cap] 153)).alloc (.cells #[.int .i64 t] 3)) 9 (.string { data := #[] })).alloc (.cells #[.bool false] 4)).alloc (.cells #[.slice oa c.Vers.length cap] 151)
  have b5 := (Boxed.new (((w.alloc (.cells #[.string ⟨c.Key.toArray⟩, .slice oa c.Vers.length cap] 153)).alloc (.cells #[.int .i64 t] 3)).alloc (.cells #[.string { data := #[] }] 9)) 4 (.bool false)).alloc (.cells #[.slice oa c.Vers.length cap] 151)
  have bs := Boxed.new ((((w.alloc (.cells #[.string ⟨c.Key.toArray⟩, .slice oa c.Vers.length cap] 153)).alloc (.cells #[.int .i64 t] 3)).alloc (.cells #[.string { data := #[] }] 9)).alloc (.cells #[.bool false] 4)) 151 (.slice oa c.Vers.length cap)
  simp only [World.size_alloc] at b3 b4 b5 bs
  have hB0 : Below w.heap.size w (((((w.alloc (.cells #[.string ⟨c.Key.toArray⟩, .slice oa c.Vers.length cap] 153)).alloc (.cells #[.int .i64 t] 3)).alloc (.cells #[.string { data := #[] }] 9)).alloc (.cells #[.bool false] 4)).alloc (.cells #[.slice oa c.Vers.length cap] 151)) := (((((Below.refl _ w).alloc (Nat.le_refl _) _).alloc (by simp) _).alloc (by simp; omega) _).alloc (by simp; omega) _).alloc (by simp; omega) _
  have hsz : (((((w.alloc (.cells #[.string ⟨c.Key.toArray⟩, .slice oa c.Vers.length cap] 153)).alloc (.cells #[.int .i64 t] 3)).alloc (.cells #[.string { data := #[] }] 9)).alloc (.cells #[.bool false] 4)).alloc (.cells #[.slice oa c.Vers.length cap] 151)).heap.size = w.heap.size + 5 := by simp
  obtain ⟨W0, hW0⟩ : ∃ W0, ((((w.alloc (.cells #[.string ⟨c.Key.toArray⟩, .slice oa c.Vers.length cap] 153)).alloc (.cells #[.int .i64 t] 3)).alloc (.cells #[.string { data := #[] }] 9)).alloc (.cells #[.bool false] 4)).alloc (.cells #[.slice oa c.Vers.length cap] 151) = W0 := ⟨_, rfl⟩
  rw [hW0] at b3 b4 b5 bs hB0 hsz ⊢
  clear hW0
  have hI0 : VersIn W0.heap.size W0 oa c.Vers := by
    rcases hI with h | ⟨b, off, e, hb, hv⟩
    · exact .inl h
    · exact .inr ⟨b, off, e, by omega, hv.below hB0 hb⟩
  refine wpIn_rangeFunc_ownH hro h1 (gf := 294) (lb := #[.pointer (some ⟨w.heap.size + 1 + 1 + 1 + 1, 0, none⟩)]) rfl h3f (enters_of Try.func294 (by kernel_rfl) rfl)
    (back_stops F (n - 1) h3f hro (by omega) (w.heap.size + 1 + 1 + 1 + 1) W0.heap.size oa cap c.Vers hreach W0 (by omega) (Nat.le_refl _) bs.cell hI0) belowK_t (belowK_b (Nat.le_refl _)) (Below.refl _ _) (fun _ => rfl)
    (fun pre W => (((NoneAt t pre ∧ Boxed W (w.heap.size + 1) 3 (.int .i64 t)) ∧ Boxed W (w.heap.size + 1 + 1) 9 (.string { data := #[] })) ∧ Boxed W (w.heap.size + 1 + 1 + 1) 4 (.bool false)) ∧ (Below w.heap.size w W ∧ Below W0.heap.size W0 W))
    (fun cd pre W => (∃ v, (((cd = .ret ∧ OneAt t pre v) ∧ Boxed W (w.heap.size + 1 + 1) 9 (.string ⟨v.Val.toArray⟩)) ∧ Boxed W (w.heap.size + 1 + 1 + 1) 4 (.bool (!v.Gone)))) ∧ Below w.heap.size w W)
    (OwnFrom.and (OwnFrom.and (OwnFrom.and (OwnFrom.and (ownFrom_pure _ _) (Own.from (boxed_own _ _ _) _)) (Own.from (boxed_own _ _ _) _)) (Own.from (boxed_own _ _ _) _)) (OwnFrom.and (ownFrom_below (Nat.le_refl _) (by omega)) (ownFrom_below (Nat.le_refl _) (Nat.le_refl _))))
    (fun cd => OwnFrom.and (fun s X Y row hs hg hr => by
      obtain ⟨v, ⟨e1, e2⟩, e3⟩ := hs
      exact ⟨v, ⟨e1, boxed_own _ _ (fun (_ : Unit) => Value.string ⟨v.Val.toArray⟩) () X Y row e2 hg (fun r e => (hr r e).2)⟩, boxed_own _ _ (fun (_ : Unit) => Value.bool (!v.Gone)) () X Y row e3 hg (fun r e => (hr r e).2)⟩) (ownFrom_below (Nat.le_refl _) (by omega)))
    ⟨⟨⟨⟨fun _ h => by simp at h, b3⟩, b4⟩, b5⟩, hB0, Below.refl _ _⟩
    (fun x a' W => ∃ Bx, w.heap.size + 1 + 1 + 1 < Bx ∧ (W.cell? ⟨Bx, 0, none⟩ = some (.int .i64 x.2.Time) ∧ W.cell? ⟨Bx, 1, none⟩ = some (.string ⟨x.2.Val.toArray⟩) ∧ W.cell? ⟨Bx, 2, none⟩ = some (.bool x.2.Gone)) ∧ a' = { tmps := #[.agg #[.string ⟨c.Key.toArray⟩, .slice oa c.Vers.length cap], .int .i64 t, .pointer (some ⟨w.heap.size, 0, none⟩), .pointer (some ⟨w.heap.size + 1, 0, none⟩), .pointer (some ⟨w.heap.size + 1 + 1, 0, none⟩), .pointer (some ⟨w.heap.size + 1 + 1 + 1, 0, none⟩), undef, .pointer (some ⟨Bx, 0, none⟩), .pointer (some ⟨w.heap.size, 1, none⟩), .slice oa c.Vers.length cap, .func (.func 294) #[] #[.pointer (some ⟨w.heap.size + 1 + 1 + 1 + 1, 0, none⟩)], .int .i64 x.1, verV x.2, undef, undef, undef, undef, undef, undef, undef, undef, undef], defers := [] })
    (fun x a' _ X Y row hs hg hr => by
      obtain ⟨Bx, e1, ⟨e2, e3, e4⟩, e5⟩ := hs
      exact ⟨Bx, e1, ⟨cell_kept e2 hg (fun r e => (hr r e).2), cell_kept e3 hg (fun r e => (hr r e).2), cell_kept e4 hg (fun r e => (hr r e).2)⟩, e5⟩)
    ?assign ?body ?done ?stop
  case assign =>
    rintro l pre x W K ⟨⟨⟨⟨hp, bt⟩, bv⟩, bg⟩, hB1, hB2⟩ hK
    dsimp only [verV]
    have hW0 := hB2.size
    gi_wp2
    refine hK _ _ ((KeepsOthers.alloc _ _).from _) ((Below.refl _ W).alloc (by omega) _) ⟨⟨⟨⟨hp, bt.alloc _⟩, bv.alloc _⟩, bg.alloc _⟩, hB1.alloc hB1.size _, hB2.alloc hB2.size _⟩ ⟨W.heap.size, bg.lt, ⟨?_, ?_, ?_⟩, rfl⟩
    · unfold World.cell?; rw [World.alloc_heap_new]; rfl
    · unfold World.cell?; rw [World.alloc_heap_new]; rfl
    · unfold World.cell?; rw [World.alloc_heap_new]; rfl
  case body =>
    rintro l pre x a' W hl ⟨r, hr⟩ ⟨⟨⟨⟨hp, bt⟩, bv⟩, bg⟩, hB1, hB2⟩ ⟨Bx, hBx, ⟨c1, c2, c3⟩, rfl⟩ hlt
    have ct := bt.cell
    have cv := bv.cell
    have fv := bv.frozen
    have cg := bg.cell
    have fg := bg.frozen
    dsimp only [verV]
    gi_wp2
    · have hxy : x.2.Time ≤ t := by assumption
      have bv2 := (bv.set (.string ⟨x.2.Val.toArray⟩)).other (show w.heap.size + 1 + 1 ≠ w.heap.size + 1 + 1 + 1 by omega) (.bool (!x.2.Gone))
      have bg2 := (bg.other (show w.heap.size + 1 + 1 + 1 ≠ w.heap.size + 1 + 1 by omega) (.string ⟨x.2.Val.toArray⟩)).set (.bool (!x.2.Gone))
      have hB3 := (hB1.setCell (p := ⟨w.heap.size + 1 + 1, 0, none⟩) (by simp; omega) (.string ⟨x.2.Val.toArray⟩)).setCell (p := ⟨w.heap.size + 1 + 1 + 1, 0, none⟩) (by simp; omega) (.bool (!x.2.Gone))
      have hone : OneAt t (pre ++ [x]) x.2 := ⟨pre, x.1, rfl, hp, hxy⟩
      gi_region
      all_goals gi_wp2
      all_goals exact ⟨((KeepsOthers.setCell _ _ _).trans ((KeepsOthers.setCell _ _ _).trans (KeepsOthers.drew _))).from _, ⟨x.2, ⟨⟨rfl, hone⟩, bv2⟩, bg2⟩, hB3.drew⟩
    · rename_i hxy
      exact ⟨KeepsFrom.refl _ _, Below.refl _ _, ⟨⟨⟨noneAt_snoc hp hxy, bt⟩, bv⟩, bg⟩, hB1, hB2⟩
  case done =>
    rintro D zs W hD rfl ⟨⟨⟨⟨hp, bt⟩, bv⟩, bg⟩, hB1, hB2⟩ hK
    have cv := bv.cell
    have fv := bv.frozen
    have cg := bg.cell
    have fg := bg.frozen
    gi_wp2
    have hK1 := (KeepsOthers.setCell W ⟨w.heap.size + 1 + 1, 0, none⟩ (.string { data := #[] })).same D _ hK rfl
    have hK' := (KeepsOthers.setCell _ ⟨w.heap.size + 1 + 1 + 1, 0, none⟩ (.bool false)).same D _ hK1 rfl
    refine ⟨by simp, .inl ⟨_, _, rfl, run_takeDeferred hK', ?_⟩⟩
    have bv2 := (bv.set (.string { data := #[] })).other (show w.heap.size + 1 + 1 ≠ w.heap.size + 1 + 1 + 1 by omega) (.bool false)
    have bg2 := (bg.other (show w.heap.size + 1 + 1 + 1 ≠ w.heap.size + 1 + 1 by omega) (.string { data := #[] })).set (.bool false)
    have hc4 := cell_kept bv2.cell (grownBy_putObj' _ D (.deferred none)) (fun r e => by cases e; exact ⟨_, hK', rfl⟩)
    have hc5 := cell_kept bg2.cell (grownBy_putObj' _ D (.deferred none)) (fun r e => by cases e; exact ⟨_, hK', rfl⟩)
    refine ⟨.tuple #[.string { data := #[] }, .bool false], ?_, by rw [val_none hp], ((hB1.setCell (p := ⟨w.heap.size + 1 + 1, 0, none⟩) (by simp; omega) _).setCell (p := ⟨w.heap.size + 1 + 1 + 1, 0, none⟩) (by simp; omega) _).trans (belowK_b (w := w) (Nat.le_refl _) _ D _ _ (by omega) hK' rfl rfl)⟩
    simp [results, Try.f233, go_sem, hc4, hc5]
  case stop =>
    rintro D cd pre W hD ⟨k, hk, hpre⟩ ⟨⟨v, ⟨⟨rfl, hone⟩, bv⟩, bg⟩, hB1⟩ hK
    gi_wp2
    refine ⟨by simp, .inl ⟨_, _, rfl, run_takeDeferred hK, ?_⟩⟩
    have hc4 := cell_kept bv.cell (grownBy_putObj' _ D (.deferred none)) (fun r e => by cases e; exact ⟨_, hK, rfl⟩)
    have hc5 := cell_kept bg.cell (grownBy_putObj' _ D (.deferred none)) (fun r e => by cases e; exact ⟨_, hK, rfl⟩)
    obtain ⟨pre0, i, he, hn0, hvt⟩ := hone
    have hval := val_some (x := (i, v)) hk (he.symm.trans hpre) hn0 hvt
    refine ⟨.tuple #[.string ⟨v.Val.toArray⟩, .bool (!v.Gone)], ?_, by rw [hval], hB1.trans (belowK_b (w := w) (Nat.le_refl _) W D _ _ (by omega) hK rfl rfl)⟩
    simp [results, Try.f233, go_sem, hc4, hc5]
open Go.AV in
open Go.AV in
theorem at_spec (c : TCell) (t : Int) (hs : c.Vers.length ≤ 4194304) : FSpec Try.prog 233 [AV.agg c.cs, AV.int t] (AV.tup [AV.str (cellVal c t).1, AV.bool (cellVal c t).2]) := fspec_mk fun R w vs hr hd => by
  obtain ⟨v0, v1, rfl⟩ : ∃ a b, vs = [a, b] := by
    match vs, hd.1 with
    | [a, b], _ => exact ⟨a, b, rfl⟩
  obtain ⟨us, rfl, hdc⟩ := hd.2 0 v0 _ rfl rfl
  have d1 : v1 = .int .i64 t := hd.2 1 v1 _ rfl rfl
  subst d1
  obtain ⟨u0, u1, rfl⟩ : ∃ a b, us = [a, b] := by
    match us, hdc.1 with
    | [a, b], _ => exact ⟨a, b, rfl⟩
  have e0 : u0 = .string ⟨c.Key.toArray⟩ := (hdc.2 0 u0 _ rfl rfl).1
  subst e0
  obtain ⟨oa, cap, e1, h1, h2, h3, h4⟩ := (hdc.2 1 u1 _ rfl rfl).1
  subst e1
  have hI : VersIn w.heap.size w oa c.Vers := by
    by_cases hn : c.Vers = []
    · exact .inl hn
    · obtain ⟨a, rfl, hca⟩ := h4 (by simpa using hn)
      have hget : ∀ (j : Nat) (v : TVer) (i : Nat) (x : AV), c.Vers[j]? = some v → (TVer.cs v)[i]? = some x → ∃ u, rcell R (a.add (j * 3 + i)) = some u ∧ x.den R u ∧ u.oneCell' = true := fun j v i x hj hx =>
        hca _ x (flatten_get h3 (by rw [List.getElem?_map, hj]; rfl) hx)
      obtain ⟨b, off, sp⟩ := a
      have hsp : sp = none := by
        obtain ⟨v, hv⟩ := get_some (show 0 < c.Vers.length from List.length_pos_iff.2 hn)
        obtain ⟨u, hu, _⟩ := hget 0 v 0 _ hv rfl
        unfold rcell at hu
        cases sp with
        | none => rfl
        | some s => simp [Addr.add] at hu; split at hu <;> cases hu
      subst hsp
      refine .inr ⟨b, off, rfl, ?_, fun j v hj => ?_⟩
      · obtain ⟨v, hv⟩ := get_some (show 0 < c.Vers.length from List.length_pos_iff.2 hn)
        obtain ⟨u, hu, _⟩ := hget 0 v 0 _ hv rfl
        unfold rcell at hu
        split at hu
        · rename_i hb
          exact (Array.getElem?_eq_some_iff.1 (hr _ _ hb)).1
        · cases hu
      · obtain ⟨x0, k0, k0', _⟩ := hget j v 0 _ hj rfl
        obtain ⟨x1, k1, k1', _⟩ := hget j v 1 _ hj rfl
        obtain ⟨x2, k2, k2', _⟩ := hget j v 2 _ hj rfl
        have k0'' : x0 = .int .i64 v.Time := k0'
        have k1'' : x1 = .string ⟨v.Val.toArray⟩ := k1'
        have k2'' : x2 = .bool v.Gone := k2'
        subst k0''; subst k1''; subst k2''
        rw [show ((⟨b, off, none⟩ : Addr).add (j * 3 + 0)) = ⟨b, off + j * 3, none⟩ by simp [Addr.add]] at k0
        rw [show ((⟨b, off, none⟩ : Addr).add (j * 3 + 1)) = ⟨b, off + j * 3 + 1, none⟩ by simp [Addr.add, Nat.add_assoc]] at k1
        rw [show ((⟨b, off, none⟩ : Addr).add (j * 3 + 2)) = ⟨b, off + j * 3 + 2, none⟩ by simp [Addr.add, Nat.add_assoc]] at k2
        exact ⟨rcell_cell hr k0, rcell_cell hr k1, rcell_cell hr k2⟩
  refine (callsIn_wide (n := 8)).1 ?_
  have hl : (c.Vers.map TVer.cs).length = c.Vers.length := List.length_map _
  rw [show ([Value.agg [.string ⟨c.Key.toArray⟩, .slice oa (c.Vers.map TVer.cs).length cap].toArray, .int .i64 t] : List Value).toArray = #[.agg #[.string ⟨c.Key.toArray⟩, .slice oa c.Vers.length cap], .int .i64 t] from by rw [hl]]
  refine (at_in Fence.wide 8 trivial trivial trivial rfl (by omega) c t oa cap (by omega) w hI).mono ?_
  rintro e W' ⟨rfl, hB⟩
  refine ⟨_, R, rfl, ⟨[.string ⟨(cellVal c t).1.toArray⟩, .bool (cellVal c t).2], rfl, DenV.cons rfl (DenV.cons rfl (DenV.nil R))⟩, fun b o hb => ?_, fun _ _ => rfl, hB⟩
  have := hr b o hb
  rw [hB.block b (Array.getElem?_eq_some_iff.1 this).1]; exact this
end Go.Proofs.Yteliahajeokciaa

set_option linter.unusedVariables false
set_option linter.unusedSimpArgs false
set_option maxRecDepth 100000
namespace Go.Proofs.Yteliahajeokciaa
open Go Go.AV Go.M
attribute [local irreducible] OpW OpA OpS AWP FSpec ESpec RetOk RvDen Le Ev GuardIs
theorem l3Ver_spec (c : TCell) (t : Int) (hl : c.Vers.length ≤ 4194304) : FSpec Try.prog 236 [AV.agg c.cs, AV.int t] (AV.tup [AV.agg ((verAt c.Vers t).getD zV).cs, AV.bool (verAt c.Vers t).isSome]) := by
  refine spec_of_awp Try.func236 rfl Try.ntmps236 rfl ?_
  refine awp_seq ?_
  refine awp_region ?_
  refine sq_box rfl rfl rfl rfl (ev_tmp rfl) ?_
  intro b2
  refine sq_alloc rfl rfl rfl rfl Try.zeroValue155 rfl ?_
  intro b4
  refine sq_plain rfl rfl rfl (w_assign rfl ev_cb) ?_
  refine sq_nil ?_
  refine awp_seq ?_
  refine awp_region ?_
  refine sq_alloc rfl rfl rfl rfl Try.zeroValue155 rfl ?_
  intro b6
  refine sq_nil ?_
  refine awp_seq ?_
  refine awp_region ?_
  refine sq_plain rfl rfl rfl (w_assign rfl ev_cb) ?_
  refine sq_nil ?_
  refine awp_seq ?_
  refine awp_seq ?_
  refine awp_region ?_
  refine sq_plain rfl rfl rfl (w_fldBn 1 rfl Try.underlying153 rfl Try.sizeOf151 (ev_tmp rfl) rfl) ?_
  refine sq_plain rfl rfl rfl (w_loadB1 2 rfl (ev_tmp rfl) rfl Try.isAgg151 rfl) ?_
  refine sq_plain rfl rfl rfl (w_llen rfl Try.underlying151 (ev_tmp rfl)) ?_
  refine sq_plain rfl rfl rfl (w_move rfl ev_ci) ?_
  refine sq_nil ?_
  refine awp_block ?_
  refine awp_loop_i [(1, _), (4, _), (5, _), (6, _), (11, _), (12, _)] _ (fun (i : Nat) => i ≤ c.Vers.length) (fun (i : Nat) => [.box b6 155 ((verAt (c.Vers.take i) t).getD zV).cs]) (fun (i : Nat) => [(7, AV.bool (verAt (c.Vers.take i) t).isSome), (13, AV.int i)]) (fun (i : Nat) => c.Vers.length - i) (0) ?_ (le_eq (by rfl) ⟨rfl, rfl, rfl, rfl, rfl, rfl, rfl, rfl, trivial⟩) ?_
  · exact Nat.zero_le _
  intro i hinv
  refine awp_seq ?_
  refine awp_region ?_
  refine sq_plain rfl rfl rfl (w_lss rfl (ev_tmp rfl) (ev_tmp rfl)) ?_
  refine sq_nil ?_
  refine awp_seq ?_
  refine awp_cond (ev_tmp rfl) ?_ ?_
  · intro h14
    have k14 := of_decide_eq_true h14; try simp only [List.length_map] at k14
    have hlt : i < c.Vers.length := by omega
    obtain ⟨x, hx⟩ := get_some hlt
    have hvs := verAt_step (t := t) hx
    refine awp_skip ?_
    refine awp_seq ?_
    refine awp_block ?_
    refine awp_seq ?_
    refine awp_region ?_
    refine sq_plain rfl rfl rfl (w_idxm rfl Try.underlying151 Try.sizeOf155 (ev_tmp rfl) (ev_tmp rfl) hx (by first | omega | ((try simp only [List.length_map, List.length_take, List.length_cons, List.length_nil, chunks_len, szR] at *); omega) | (have hc2 := hc; simp only [Bool.and_eq_true, Bool.or_eq_true, Bool.or_eq_false_iff, Bool.and_eq_false_iff, Bool.not_eq_true', Bool.not_eq_false', decide_eq_true_eq, decide_eq_false_iff_not, beq_iff_eq, bne_iff_ne, List.length_map, List.length_take] at hc2; omega))) ?_
    refine sq_plain rfl rfl rfl (w_loadE rfl (ev_tmp rfl) Try.isAgg155 Try.sizeOf155) ?_
    refine sq_alloc rfl rfl rfl rfl Try.zeroValue155 rfl ?_
    intro b9
    refine sq_storeB0 0 rfl rfl rfl (ev_tmp rfl) (ev_tmp rfl) (as_agg _) rfl Try.sizeOf155 rfl ?_
    refine sq_nil ?_
    refine awp_seq ?_
    refine awp_region ?_
    refine sq_plain rfl rfl rfl (w_fldBn 0 rfl Try.underlying155 rfl Try.sizeOf3 (ev_tmp rfl) rfl) ?_
    refine sq_plain rfl rfl rfl (w_loadB1 0 rfl (ev_tmp rfl) rfl Try.isAgg3 rfl) ?_
    refine sq_plain rfl rfl rfl (w_move rfl (ev_tmp rfl)) ?_
    refine sq_plain rfl rfl rfl (w_leq rfl (ev_tmp rfl) (ev_tmp rfl)) ?_
    refine sq_nil ?_
    refine awp_cond (ev_tmp rfl) ?_ ?_
    · intro h20
      have k20 := of_decide_eq_true h20; try simp only [List.length_map] at k20
      have hve : verAt (c.Vers.take (i + 1)) t = some x := by rw [hvs, if_pos k20]
      refine awp_seq ?_
      refine awp_region ?_
      refine sq_plain rfl rfl rfl (w_loadA 0 rfl (ev_tmp rfl) rfl Try.isAgg155 Try.sizeOf155 rfl) ?_
      refine sq_storeB0 1 rfl rfl rfl (ev_tmp rfl) (ev_tmp rfl) (as_agg _) rfl Try.sizeOf155 rfl ?_
      refine sq_nil ?_
      refine awp_region ?_
      refine sq_plain rfl rfl rfl (w_assign rfl ev_cb) ?_
      refine sq_nil ?_
      refine awp_region ?_
      refine sq_plain rfl rfl rfl (w_addi rfl (ev_tmp rfl) ev_ci (by first | omega | ((try simp only [List.length_map, List.length_take, List.length_cons, List.length_nil, chunks_len, szR] at *); omega) | (have hc2 := hc; simp only [Bool.and_eq_true, Bool.or_eq_true, Bool.or_eq_false_iff, Bool.and_eq_false_iff, Bool.not_eq_true', Bool.not_eq_false', decide_eq_true_eq, decide_eq_false_iff_not, beq_iff_eq, bne_iff_ne, List.length_map, List.length_take] at hc2; omega))) ?_
      refine sq_plain rfl rfl rfl (w_move rfl (ev_tmp rfl)) ?_
      refine sq_nil ?_
      refine round_end i (i + 1) ?_ ?_ (le_dropeq 1 (by first | (rw [hve]; rfl) | (rw [hve])) ⟨congrArg (fun z : Bool => some (AV.bool z)) (by rw [hve]; try rfl), rfl, rfl, rfl, rfl, rfl, rfl, rfl, trivial⟩)
      · omega
      · omega
    · intro h20
      have k20 := of_decide_eq_false h20; try simp only [List.length_map] at k20
      have hve : verAt (c.Vers.take (i + 1)) t = verAt (c.Vers.take i) t := by rw [hvs, if_neg k20]
      refine awp_skip ?_
      refine awp_region ?_
      refine sq_plain rfl rfl rfl (w_addi rfl (ev_tmp rfl) ev_ci (by first | omega | ((try simp only [List.length_map, List.length_take, List.length_cons, List.length_nil, chunks_len, szR] at *); omega) | (have hc2 := hc; simp only [Bool.and_eq_true, Bool.or_eq_true, Bool.or_eq_false_iff, Bool.and_eq_false_iff, Bool.not_eq_true', Bool.not_eq_false', decide_eq_true_eq, decide_eq_false_iff_not, beq_iff_eq, bne_iff_ne, List.length_map, List.length_take] at hc2; omega))) ?_
      refine sq_plain rfl rfl rfl (w_move rfl (ev_tmp rfl)) ?_
      refine sq_nil ?_
      refine round_end i (i + 1) ?_ ?_ (le_dropeq 1 (by first | (rw [hve]; rfl) | (rw [hve])) ⟨congrArg (fun z : Bool => some (AV.bool z)) (by rw [hve]; try rfl), rfl, rfl, rfl, rfl, rfl, rfl, rfl, trivial⟩)
      · omega
      · omega
  · intro h14
    have k14 := of_decide_eq_false h14; try simp only [List.length_map] at k14
    have hge : c.Vers.length ≤ i := by omega
    rw [List.take_of_length_le hge]
    refine awp_exit ?_
    refine awp_seq ?_
    refine awp_region ?_
    refine sq_plain rfl rfl rfl (w_loadA 0 rfl (ev_tmp rfl) rfl Try.isAgg155 Try.sizeOf155 rfl) ?_
    refine sq_plain rfl rfl rfl (w_move rfl (ev_tmp rfl)) ?_
    refine sq_storeB0 1 rfl rfl rfl (ev_tmp rfl) (ev_tmp rfl) (as_agg _) rfl Try.sizeOf155 rfl ?_
    refine sq_plain rfl rfl rfl (w_assign rfl (ev_tmp rfl)) ?_
    refine sq_nil ?_
    refine awp_ret ?_
    exact retN rfl (by decide) (rv_cons (rv_cell (ys := _) 1 rfl rfl Try.isAgg155 Try.sizeOf155 rfl) (rv_cons (rv_tmp' rfl (by first | rfl | exact congrArg AV.bool (by rw [List.take_of_length_le hge]))) rv_nil))
theorem l3Look_spec (l : List TCell) (k : Str) (t : Int) (hs : sizeL TCell.size l ≤ 4194304) : FSpec Try.prog 167 [AV.list 2 (l.map TCell.cs), AV.str k, AV.int t] (AV.tup [AV.str (cellAt l k t).1, AV.bool (cellAt l k t).2]) := by
  have hl : l.length ≤ 4194304 := Nat.le_trans sizeL_len hs
  refine spec_of_awp Try.func167 rfl Try.ntmps167 rfl ?_
  refine awp_seq ?_
  refine awp_region ?_
  refine sq_plain rfl rfl rfl (w_assign rfl (ev_cs' (l := []) rfl)) ?_
  refine sq_plain rfl rfl rfl (w_assign rfl ev_cb) ?_
  refine sq_nil ?_
  refine awp_seq ?_
  refine awp_region ?_
  refine sq_plain rfl rfl rfl (w_move rfl (ev_tmp rfl)) ?_
  refine sq_plain rfl rfl rfl (w_move rfl (ev_tmp rfl)) ?_
  refine sq_plain rfl rfl rfl (w_call rfl Try.call244 rfl (l3At_spec _ _) (evl_cons (ev_tmp rfl) (evl_cons (ev_tmp rfl) evl_nil))) ?_
  refine sq_plain rfl rfl rfl (w_assign rfl (ev_tmp rfl)) ?_
  refine sq_nil ?_
  refine awp_seq ?_
  refine awp_seq ?_
  refine awp_region ?_
  refine sq_plain rfl rfl rfl (w_move rfl (ev_tmp rfl)) ?_
  refine sq_plain rfl rfl rfl (w_lss rfl (ev_tmp rfl) ev_ci) ?_
  refine sq_nil ?_
  refine awp_cond (ev_tmp rfl) ?_ ?_
  · intro h15
    have k15 := of_decide_eq_true h15; try simp only [List.length_map] at k15
    have he : cellAt l k t = ([], false) := cellAt_none (atC_neg k15)
    rw [he]
    refine awp_seq ?_
    refine awp_region ?_
    refine sq_plain rfl rfl rfl (w_assign rfl (ev_cs' (l := []) rfl)) ?_
    refine sq_plain rfl rfl rfl (w_assign rfl ev_cb) ?_
    refine sq_nil ?_
    refine awp_ret ?_
    exact retN rfl (by decide) (rv_cons (rv_tmp' rfl (by rfl)) (rv_cons (rv_tmp' rfl (by rfl)) rv_nil))
  · intro h15
    have k15 := of_decide_eq_false h15; try simp only [List.length_map] at k15
    obtain ⟨p, c, hp, hc, hf⟩ := atC_pos k15
    rw [hp]
    have hcl := (cell_len (Nat.le_trans (sizeL_get hc) hs)).2.1
    have he := (cellAt_some (t := t) hf).trans (cellVal_verAt c t)
    rw [he]
    refine awp_skip ?_
    refine awp_seq ?_
    refine awp_region ?_
    refine sq_plain rfl rfl rfl (w_move rfl (ev_tmp rfl)) ?_
    refine sq_plain rfl rfl rfl (w_move rfl (ev_tmp rfl)) ?_
    refine sq_plain rfl rfl rfl (w_idxm rfl Try.underlying53 Try.sizeOf153 (ev_tmp rfl) (ev_tmp rfl) hc (by first | omega | ((try simp only [List.length_map, List.length_take, List.length_cons, List.length_nil, chunks_len, szR] at *); omega) | (have hc2 := hc; simp only [Bool.and_eq_true, Bool.or_eq_true, Bool.or_eq_false_iff, Bool.and_eq_false_iff, Bool.not_eq_true', Bool.not_eq_false', decide_eq_true_eq, decide_eq_false_iff_not, beq_iff_eq, bne_iff_ne, List.length_map, List.length_take] at hc2; omega))) ?_
    refine sq_plain rfl rfl rfl (w_loadE rfl (ev_tmp rfl) Try.isAgg153 Try.sizeOf153) ?_
    refine sq_plain rfl rfl rfl (w_move rfl (ev_tmp rfl)) ?_
    refine sq_plain rfl rfl rfl (w_call rfl Try.call236 rfl (l3Ver_spec _ _ (by first | assumption | omega)) (evl_cons (ev_tmp rfl) (evl_cons (ev_tmp rfl) evl_nil))) ?_
    refine sq_plain rfl rfl rfl (w_move rfl (ev_tmp rfl)) ?_
    refine sq_plain rfl rfl rfl (w_extract rfl (ev_tmp rfl) rfl) ?_
    refine sq_plain rfl rfl rfl (w_extract rfl (ev_tmp rfl) rfl) ?_
    refine sq_alloc rfl rfl rfl rfl Try.zeroValue155 rfl ?_
    intro b9
    refine sq_storeB0 0 rfl rfl rfl (ev_tmp rfl) (ev_tmp rfl) (as_agg _) rfl Try.sizeOf155 rfl ?_
    refine sq_plain rfl rfl rfl (w_assign rfl (ev_tmp rfl)) ?_
    refine sq_nil ?_
    refine awp_seq ?_
    refine awp_region_any (by kernel_rfl) (by kernel_rfl) rfl ?_
    refine ch_plain rfl rfl (w_fldBn 1 rfl Try.underlying155 rfl Try.sizeOf9 (ev_tmp rfl) rfl) ?_
    refine ch_plain rfl rfl (w_loadB1 0 rfl (ev_tmp rfl) rfl Try.isAgg9 rfl) ?_
    refine ch_plain rfl rfl (w_move rfl (ev_tmp rfl)) ?_
    refine ch_plain rfl rfl (w_move rfl (ev_tmp rfl)) ?_
    refine ch_grd rfl (guard_t rfl rfl rfl) (fun hc => w_fldBn 2 rfl Try.underlying155 rfl Try.sizeOf4 (ev_tmp rfl) rfl) ?_
    refine ch_grd rfl (guard_t rfl rfl rfl) (fun hc => w_loadB1 0 rfl (ev_whn rfl hc) rfl Try.isAgg4 rfl) ?_
    refine ch_grd rfl (guard_t rfl rfl rfl) (fun hc => w_not rfl (ev_whn rfl hc)) ?_
    refine ch_plain rfl rfl (w_and rfl (ev_tmp rfl) (evif_w rfl)) ?_
    refine ch_plain rfl rfl (w_assign rfl (ev_tmp rfl)) ?_
    refine ch_plain rfl rfl (w_assign rfl (ev_tmp rfl)) ?_
    refine ch_nil ?_
    refine awp_ret ?_
    exact retN rfl (by decide) (rv_cons (rv_tmp' rfl (by rfl)) (rv_cons (rv_tmp' rfl (by rfl)) rv_nil))
theorem cellAt_spec (l : List TCell) (k : Str) (t : Int) (ha : adj cLess l = true) (hs : sizeL TCell.size l ≤ 4194304) : FSpec Try.prog 149 [AV.list 2 (l.map TCell.cs), AV.str k, AV.int t] (AV.tup [AV.str (cellAt l k t).1, AV.bool (cellAt l k t).2]) := by
  have hl : l.length ≤ 4194304 := Nat.le_trans sizeL_len hs
  refine spec_of_awp Try.func149 rfl Try.ntmps149 rfl ?_
  refine awp_seq ?_
  refine awp_region ?_
  refine sq_plain rfl rfl rfl (w_assign rfl (ev_cs' (l := []) rfl)) ?_
  refine sq_plain rfl rfl rfl (w_assign rfl ev_cb) ?_
  refine sq_nil ?_
  refine awp_seq ?_
  refine awp_region ?_
  refine sq_plain rfl rfl rfl (w_move rfl (ev_tmp rfl)) ?_
  refine sq_plain rfl rfl rfl (w_move rfl (ev_tmp rfl)) ?_
  refine sq_plain rfl rfl rfl (w_call rfl Try.call234 rfl (findCell_spec _ _ (by first | assumption | omega)) (evl_cons (ev_tmp rfl) (evl_cons (ev_tmp rfl) evl_nil))) ?_
  refine sq_plain rfl rfl rfl (w_move rfl (ev_tmp rfl)) ?_
  refine sq_plain rfl rfl rfl (w_extract rfl (ev_tmp rfl) rfl) ?_
  refine sq_plain rfl rfl rfl (w_extract rfl (ev_tmp rfl) rfl) ?_
  refine sq_plain rfl rfl rfl (w_assign rfl (ev_tmp rfl)) ?_
  refine sq_plain rfl rfl rfl (w_assign rfl (ev_tmp rfl)) ?_
  refine sq_nil ?_
  refine awp_seq ?_
  refine awp_seq ?_
  refine awp_region ?_
  refine sq_plain rfl rfl rfl (w_move rfl (ev_tmp rfl)) ?_
  refine sq_plain rfl rfl rfl (w_not rfl (ev_tmp rfl)) ?_
  refine sq_nil ?_
  refine awp_cond (ev_tmp rfl) ?_ ?_
  · intro h17
    have hn : cHas l k = false := by simpa using h17
    have he : cellAt l k t = ([], false) := cellAt_none (by rw [findC_eq ha, hn]; rfl)
    rw [he]
    refine awp_seq ?_
    refine awp_region ?_
    refine sq_plain rfl rfl rfl (w_assign rfl (ev_cs' (l := []) rfl)) ?_
    refine sq_plain rfl rfl rfl (w_assign rfl ev_cb) ?_
    refine sq_nil ?_
    refine awp_ret ?_
    exact retN rfl (by decide) (rv_cons (rv_tmp' rfl (by rfl)) (rv_cons (rv_tmp' rfl (by rfl)) rv_nil))
  · intro h17
    have hn : cHas l k = true := by simpa using h17
    obtain ⟨c, hc, hck⟩ := cHas_iff.1 hn
    have hcl := (cell_len (Nat.le_trans (sizeL_get hc) hs)).2.1
    have he : cellAt l k t = cellVal c t := cellAt_some (by rw [findC_eq ha, hn, if_pos rfl, hc])
    rw [he]
    refine awp_skip ?_
    refine awp_seq ?_
    refine awp_region ?_
    refine sq_plain rfl rfl rfl (w_move rfl (ev_tmp rfl)) ?_
    refine sq_plain rfl rfl rfl (w_move rfl (ev_tmp rfl)) ?_
    refine sq_plain rfl rfl rfl (w_idxm rfl Try.underlying53 Try.sizeOf153 (ev_tmp rfl) (ev_tmp rfl) hc (by first | omega | ((try simp only [List.length_map, List.length_take, List.length_cons, List.length_nil, chunks_len, szR] at *); omega) | (have hc2 := hc; simp only [Bool.and_eq_true, Bool.or_eq_true, Bool.or_eq_false_iff, Bool.and_eq_false_iff, Bool.not_eq_true', Bool.not_eq_false', decide_eq_true_eq, decide_eq_false_iff_not, beq_iff_eq, bne_iff_ne, List.length_map, List.length_take] at hc2; omega))) ?_
    refine sq_plain rfl rfl rfl (w_loadE rfl (ev_tmp rfl) Try.isAgg153 Try.sizeOf153) ?_
    refine sq_plain rfl rfl rfl (w_move rfl (ev_tmp rfl)) ?_
    refine sq_plain rfl rfl rfl (w_call rfl Try.call233 rfl (at_spec _ _ (by omega)) (evl_cons (ev_tmp rfl) (evl_cons (ev_tmp rfl) evl_nil))) ?_
    refine sq_plain rfl rfl rfl (w_extract rfl (ev_tmp rfl) rfl) ?_
    refine sq_plain rfl rfl rfl (w_extract rfl (ev_tmp rfl) rfl) ?_
    refine sq_plain rfl rfl rfl (w_assign rfl (ev_tmp rfl)) ?_
    refine sq_plain rfl rfl rfl (w_assign rfl (ev_tmp rfl)) ?_
    refine sq_nil ?_
    refine awp_ret ?_
    exact retN rfl (by decide) (rv_cons (rv_tmp' rfl (by rfl)) (rv_cons (rv_tmp' rfl (by rfl)) rv_nil))
theorem cellAtR_spec (l : List TCell) (k : Str) (t : Int) (hs : sizeL TCell.size l ≤ 4194304) (hk : k.length ≤ 4611686018427387904) : FSpec Try.prog 52 [AV.list 2 (l.map TCell.cs), AV.str k, AV.int t] (AV.tup [AV.str (cellAtR l k t).1, AV.bool (cellAtR l k t).2.1, AV.bool (cellAtR l k t).2.2]) := by
  refine spec_of_awp Try.func52 rfl Try.ntmps52 rfl ?_
  refine awp_seq ?_
  refine awp_region ?_
  refine sq_plain rfl rfl rfl (w_assign rfl (ev_cs' (l := []) rfl)) ?_
  refine sq_plain rfl rfl rfl (w_assign rfl ev_cb) ?_
  refine sq_plain rfl rfl rfl (w_assign rfl ev_cb) ?_
  refine sq_nil ?_
  refine awp_seq ?_
  refine awp_seq ?_
  refine awp_region ?_
  refine sq_plain rfl rfl rfl (w_move rfl (ev_tmp rfl)) ?_
  refine sq_plain rfl rfl rfl (w_call rfl Try.call49 rfl (goodCells_spec _ (by first | assumption | omega)) (evl_cons (ev_tmp rfl) evl_nil)) ?_
  refine sq_plain rfl rfl rfl (w_not rfl (ev_tmp rfl)) ?_
  refine sq_plain rfl rfl rfl (w_move rfl (ev_tmp rfl)) ?_
  refine sq_grd rfl rfl (guard_f rfl rfl rfl) (fun hc => w_move rfl (ev_tmp rfl)) ?_
  refine sq_grd rfl rfl (guard_f rfl rfl rfl) (fun hc => w_call rfl Try.call71 rfl (goodKey_spec _ (by omega)) (evl_cons (ev_whn rfl hc) evl_nil)) ?_
  refine sq_grd rfl rfl (guard_f rfl rfl rfl) (fun hc => w_not rfl (ev_whn rfl hc)) ?_
  refine sq_plain rfl rfl rfl (w_or rfl (ev_tmp rfl) (evif_w rfl)) ?_
  refine sq_plain rfl rfl rfl (w_move rfl (ev_tmp rfl)) ?_
  refine sq_grd rfl rfl (guard_f rfl rfl rfl) (fun hc => w_move rfl (ev_tmp rfl)) ?_
  refine sq_grd rfl rfl (guard_f rfl rfl rfl) (fun hc => w_call rfl Try.call141 rfl (isTrue_spec _) (evl_cons (ev_whn rfl hc) evl_nil)) ?_
  refine sq_grd rfl rfl (guard_f rfl rfl rfl) (fun hc => w_not rfl (ev_whn rfl hc)) ?_
  refine sq_plain rfl rfl rfl (w_or rfl (ev_tmp rfl) (evif_w rfl)) ?_
  refine sq_nil ?_
  refine awp_cond (ev_tmp rfl) ?_ ?_
  · intro h23
    have he : cellAtR l k t = ([], false, false) := by unfold cellAtR; rw [if_pos h23]
    rw [he]
    refine awp_seq ?_
    refine awp_region ?_
    refine sq_plain rfl rfl rfl (w_assign rfl (ev_cs' (l := []) rfl)) ?_
    refine sq_plain rfl rfl rfl (w_assign rfl ev_cb) ?_
    refine sq_plain rfl rfl rfl (w_assign rfl ev_cb) ?_
    refine sq_nil ?_
    refine awp_ret ?_
    exact retN rfl (by decide) (rv_cons (rv_tmp' rfl (by rfl)) (rv_cons (rv_tmp' rfl (by rfl)) (rv_cons (rv_tmp' rfl (by rfl)) rv_nil)))
  · intro h23
    have hg := h23
    simp only [Bool.or_eq_false_iff, Bool.not_eq_false'] at hg
    have hgc := hg.1.1
    have he : cellAtR l k t = ((cellAt l k t).1, (cellAt l k t).2, true) := by unfold cellAtR; rw [if_neg (by rw [h23]; decide)]
    rw [he]
    refine awp_skip ?_
    refine awp_seq ?_
    refine awp_region ?_
    refine sq_plain rfl rfl rfl (w_move rfl (ev_tmp rfl)) ?_
    refine sq_plain rfl rfl rfl (w_move rfl (ev_tmp rfl)) ?_
    refine sq_plain rfl rfl rfl (w_move rfl (ev_tmp rfl)) ?_
    refine sq_plain rfl rfl rfl (w_call rfl Try.call149 rfl (cellAt_spec _ _ _ (by first | assumption | exact (goodCells_facts (by assumption)).2.1) (by first | assumption | omega)) (evl_cons (ev_tmp rfl) (evl_cons (ev_tmp rfl) (evl_cons (ev_tmp rfl) evl_nil)))) ?_
    refine sq_plain rfl rfl rfl (w_move rfl (ev_tmp rfl)) ?_
    refine sq_plain rfl rfl rfl (w_extract rfl (ev_tmp rfl) rfl) ?_
    refine sq_plain rfl rfl rfl (w_extract rfl (ev_tmp rfl) rfl) ?_
    refine sq_plain rfl rfl rfl (w_assign rfl (ev_tmp rfl)) ?_
    refine sq_plain rfl rfl rfl (w_assign rfl (ev_tmp rfl)) ?_
    refine sq_nil ?_
    refine awp_seq ?_
    refine awp_region ?_
    refine sq_plain rfl rfl rfl (w_move rfl (ev_tmp rfl)) ?_
    refine sq_plain rfl rfl rfl (w_move rfl (ev_tmp rfl)) ?_
    refine sq_plain rfl rfl rfl (w_assign rfl (ev_tmp rfl)) ?_
    refine sq_plain rfl rfl rfl (w_assign rfl (ev_tmp rfl)) ?_
    refine sq_plain rfl rfl rfl (w_assign rfl ev_cb) ?_
    refine sq_nil ?_
    refine awp_ret ?_
    exact retN rfl (by decide) (rv_cons (rv_tmp' rfl (by rfl)) (rv_cons (rv_tmp' rfl (by rfl)) (rv_cons (rv_tmp' rfl (by rfl)) rv_nil)))
theorem cellAtS_spec (l : List TCell) (k : Str) (t : Int) (hs : sizeL TCell.size l ≤ 4194304) (hk : k.length ≤ 4611686018427387904) : FSpec Try.prog 66 [AV.list 2 (l.map TCell.cs), AV.str k, AV.int t] (AV.tup [AV.str (cellAtS l k t).1, AV.bool (cellAtS l k t).2.1, AV.bool (cellAtS l k t).2.2]) := by
  refine spec_of_awp Try.func66 rfl Try.ntmps66 rfl ?_
  refine awp_seq ?_
  refine awp_region ?_
  refine sq_plain rfl rfl rfl (w_assign rfl (ev_cs' (l := []) rfl)) ?_
  refine sq_plain rfl rfl rfl (w_assign rfl ev_cb) ?_
  refine sq_plain rfl rfl rfl (w_assign rfl ev_cb) ?_
  refine sq_nil ?_
  refine awp_seq ?_
  refine awp_seq ?_
  refine awp_region ?_
  refine sq_plain rfl rfl rfl (w_move rfl (ev_tmp rfl)) ?_
  refine sq_plain rfl rfl rfl (w_call rfl Try.call143 rfl (l3Good_spec _ (by first | assumption | omega)) (evl_cons (ev_tmp rfl) evl_nil)) ?_
  refine sq_plain rfl rfl rfl (w_not rfl (ev_tmp rfl)) ?_
  refine sq_plain rfl rfl rfl (w_move rfl (ev_tmp rfl)) ?_
  refine sq_grd rfl rfl (guard_f rfl rfl rfl) (fun hc => w_move rfl (ev_tmp rfl)) ?_
  refine sq_grd rfl rfl (guard_f rfl rfl rfl) (fun hc => w_call rfl Try.call166 rfl (l3Key_spec _ (by omega)) (evl_cons (ev_whn rfl hc) evl_nil)) ?_
  refine sq_grd rfl rfl (guard_f rfl rfl rfl) (fun hc => w_not rfl (ev_whn rfl hc)) ?_
  refine sq_plain rfl rfl rfl (w_or rfl (ev_tmp rfl) (evif_w rfl)) ?_
  refine sq_plain rfl rfl rfl (w_move rfl (ev_tmp rfl)) ?_
  refine sq_grd rfl rfl (guard_f rfl rfl rfl) (fun hc => w_move rfl (ev_tmp rfl)) ?_
  refine sq_grd rfl rfl (guard_f rfl rfl rfl) (fun hc => w_call rfl Try.call144 rfl (l2True_spec _) (evl_cons (ev_whn rfl hc) evl_nil)) ?_
  refine sq_grd rfl rfl (guard_f rfl rfl rfl) (fun hc => w_not rfl (ev_whn rfl hc)) ?_
  refine sq_plain rfl rfl rfl (w_or rfl (ev_tmp rfl) (evif_w rfl)) ?_
  refine sq_nil ?_
  refine awp_cond (ev_tmp rfl) ?_ ?_
  · intro h23
    have he : cellAtS l k t = ([], false, false) := by unfold cellAtS; rw [if_pos h23]
    rw [he]
    refine awp_seq ?_
    refine awp_region ?_
    refine sq_plain rfl rfl rfl (w_assign rfl (ev_cs' (l := []) rfl)) ?_
    refine sq_plain rfl rfl rfl (w_assign rfl ev_cb) ?_
    refine sq_plain rfl rfl rfl (w_assign rfl ev_cb) ?_
    refine sq_nil ?_
    refine awp_ret ?_
    exact retN rfl (by decide) (rv_cons (rv_tmp' rfl (by rfl)) (rv_cons (rv_tmp' rfl (by rfl)) (rv_cons (rv_tmp' rfl (by rfl)) rv_nil)))
  · intro h23
    have he : cellAtS l k t = ((cellAt l k t).1, (cellAt l k t).2, true) := by unfold cellAtS; rw [if_neg (by rw [h23]; decide)]
    rw [he]
    refine awp_skip ?_
    refine awp_seq ?_
    refine awp_region ?_
    refine sq_plain rfl rfl rfl (w_move rfl (ev_tmp rfl)) ?_
    refine sq_plain rfl rfl rfl (w_move rfl (ev_tmp rfl)) ?_
    refine sq_plain rfl rfl rfl (w_move rfl (ev_tmp rfl)) ?_
    refine sq_plain rfl rfl rfl (w_call rfl Try.call167 rfl (l3Look_spec _ _ _ (by first | assumption | omega)) (evl_cons (ev_tmp rfl) (evl_cons (ev_tmp rfl) (evl_cons (ev_tmp rfl) evl_nil)))) ?_
    refine sq_plain rfl rfl rfl (w_move rfl (ev_tmp rfl)) ?_
    refine sq_plain rfl rfl rfl (w_extract rfl (ev_tmp rfl) rfl) ?_
    refine sq_plain rfl rfl rfl (w_extract rfl (ev_tmp rfl) rfl) ?_
    refine sq_plain rfl rfl rfl (w_assign rfl (ev_tmp rfl)) ?_
    refine sq_plain rfl rfl rfl (w_assign rfl (ev_tmp rfl)) ?_
    refine sq_nil ?_
    refine awp_seq ?_
    refine awp_region ?_
    refine sq_plain rfl rfl rfl (w_move rfl (ev_tmp rfl)) ?_
    refine sq_plain rfl rfl rfl (w_move rfl (ev_tmp rfl)) ?_
    refine sq_plain rfl rfl rfl (w_assign rfl (ev_tmp rfl)) ?_
    refine sq_plain rfl rfl rfl (w_assign rfl (ev_tmp rfl)) ?_
    refine sq_plain rfl rfl rfl (w_assign rfl ev_cb) ?_
    refine sq_nil ?_
    refine awp_ret ?_
    exact retN rfl (by decide) (rv_cons (rv_tmp' rfl (by rfl)) (rv_cons (rv_tmp' rfl (by rfl)) (rv_cons (rv_tmp' rfl (by rfl)) rv_nil)))
theorem lastTimeR_spec (l : List TCell) (k : Str) (hs : sizeL TCell.size l ≤ 4194304) (hk : k.length ≤ 4611686018427387904) : FSpec Try.prog 64 [AV.list 2 (l.map TCell.cs), AV.str k] (AV.tup [AV.int (lastTimeR l k).1, AV.bool (lastTimeR l k).2]) := by
  refine spec_of_awp Try.func64 rfl Try.ntmps64 rfl ?_
  refine awp_seq ?_
  refine awp_region ?_
  refine sq_plain rfl rfl rfl (w_assign rfl ev_ci) ?_
  refine sq_plain rfl rfl rfl (w_assign rfl ev_cb) ?_
  refine sq_nil ?_
  refine awp_seq ?_
  refine awp_seq ?_
  refine awp_region ?_
  refine sq_plain rfl rfl rfl (w_move rfl (ev_tmp rfl)) ?_
  refine sq_plain rfl rfl rfl (w_call rfl Try.call49 rfl (goodCells_spec _ (by first | assumption | omega)) (evl_cons (ev_tmp rfl) evl_nil)) ?_
  refine sq_plain rfl rfl rfl (w_not rfl (ev_tmp rfl)) ?_
  refine sq_plain rfl rfl rfl (w_move rfl (ev_tmp rfl)) ?_
  refine sq_grd rfl rfl (guard_f rfl rfl rfl) (fun hc => w_move rfl (ev_tmp rfl)) ?_
  refine sq_grd rfl rfl (guard_f rfl rfl rfl) (fun hc => w_call rfl Try.call71 rfl (goodKey_spec _ (by omega)) (evl_cons (ev_whn rfl hc) evl_nil)) ?_
  refine sq_grd rfl rfl (guard_f rfl rfl rfl) (fun hc => w_not rfl (ev_whn rfl hc)) ?_
  refine sq_plain rfl rfl rfl (w_or rfl (ev_tmp rfl) (evif_w rfl)) ?_
  refine sq_nil ?_
  refine awp_cond (ev_tmp rfl) ?_ ?_
  · intro h13
    have he : lastTimeR l k = (0, false) := by unfold lastTimeR; rw [if_pos h13]
    rw [he]
    refine awp_seq ?_
    refine awp_region ?_
    refine sq_plain rfl rfl rfl (w_assign rfl ev_ci) ?_
    refine sq_plain rfl rfl rfl (w_assign rfl ev_cb) ?_
    refine sq_nil ?_
    refine awp_ret ?_
    exact retN rfl (by decide) (rv_cons (rv_tmp' rfl (by rfl)) (rv_cons (rv_tmp' rfl (by rfl)) rv_nil))
  · intro h13
    have hg := h13
    simp only [Bool.or_eq_false_iff, Bool.not_eq_false'] at hg
    have hgc := hg.1
    have he : lastTimeR l k = (lastTime l k, true) := by unfold lastTimeR; rw [if_neg (by rw [h13]; decide)]
    rw [he]
    refine awp_skip ?_
    refine awp_seq ?_
    refine awp_region ?_
    refine sq_plain rfl rfl rfl (w_move rfl (ev_tmp rfl)) ?_
    refine sq_plain rfl rfl rfl (w_move rfl (ev_tmp rfl)) ?_
    refine sq_plain rfl rfl rfl (w_call rfl Try.call164 rfl (lastTime_spec _ _ (by first | assumption | exact cellsOk_good (by assumption)) (by first | assumption | omega)) (evl_cons (ev_tmp rfl) (evl_cons (ev_tmp rfl) evl_nil))) ?_
    refine sq_plain rfl rfl rfl (w_assign rfl (ev_tmp rfl)) ?_
    refine sq_plain rfl rfl rfl (w_assign rfl ev_cb) ?_
    refine sq_nil ?_
    refine awp_ret ?_
    exact retN rfl (by decide) (rv_cons (rv_tmp' rfl (by rfl)) (rv_cons (rv_tmp' rfl (by rfl)) rv_nil))
theorem lastTimeS_spec (l : List TCell) (k : Str) (hs : sizeL TCell.size l ≤ 4194304) (hk : k.length ≤ 4611686018427387904) : FSpec Try.prog 68 [AV.list 2 (l.map TCell.cs), AV.str k] (AV.tup [AV.int (lastTimeS l k).1, AV.bool (lastTimeS l k).2]) := by
  refine spec_of_awp Try.func68 rfl Try.ntmps68 rfl ?_
  refine awp_seq ?_
  refine awp_region ?_
  refine sq_plain rfl rfl rfl (w_assign rfl ev_ci) ?_
  refine sq_plain rfl rfl rfl (w_assign rfl ev_cb) ?_
  refine sq_nil ?_
  refine awp_seq ?_
  refine awp_seq ?_
  refine awp_region ?_
  refine sq_plain rfl rfl rfl (w_move rfl (ev_tmp rfl)) ?_
  refine sq_plain rfl rfl rfl (w_call rfl Try.call143 rfl (l3Good_spec _ (by first | assumption | omega)) (evl_cons (ev_tmp rfl) evl_nil)) ?_
  refine sq_plain rfl rfl rfl (w_not rfl (ev_tmp rfl)) ?_
  refine sq_plain rfl rfl rfl (w_move rfl (ev_tmp rfl)) ?_
  refine sq_grd rfl rfl (guard_f rfl rfl rfl) (fun hc => w_move rfl (ev_tmp rfl)) ?_
  refine sq_grd rfl rfl (guard_f rfl rfl rfl) (fun hc => w_call rfl Try.call166 rfl (l3Key_spec _ (by omega)) (evl_cons (ev_whn rfl hc) evl_nil)) ?_
  refine sq_grd rfl rfl (guard_f rfl rfl rfl) (fun hc => w_not rfl (ev_whn rfl hc)) ?_
  refine sq_plain rfl rfl rfl (w_or rfl (ev_tmp rfl) (evif_w rfl)) ?_
  refine sq_nil ?_
  refine awp_cond (ev_tmp rfl) ?_ ?_
  · intro h13
    have he : lastTimeS l k = (0, false) := by unfold lastTimeS; rw [if_pos h13]
    rw [he]
    refine awp_seq ?_
    refine awp_region ?_
    refine sq_plain rfl rfl rfl (w_assign rfl ev_ci) ?_
    refine sq_plain rfl rfl rfl (w_assign rfl ev_cb) ?_
    refine sq_nil ?_
    refine awp_ret ?_
    exact retN rfl (by decide) (rv_cons (rv_tmp' rfl (by rfl)) (rv_cons (rv_tmp' rfl (by rfl)) rv_nil))
  · intro h13
    have hg := h13
    simp only [Bool.or_eq_false_iff, Bool.not_eq_false'] at hg
    have hgc := hg.1
    have he : lastTimeS l k = (lastTime l k, true) := by unfold lastTimeS; rw [if_neg (by rw [h13]; decide)]
    rw [he]
    refine awp_skip ?_
    refine awp_seq ?_
    refine awp_region ?_
    refine sq_plain rfl rfl rfl (w_move rfl (ev_tmp rfl)) ?_
    refine sq_plain rfl rfl rfl (w_move rfl (ev_tmp rfl)) ?_
    refine sq_plain rfl rfl rfl (w_call rfl Try.call168 rfl (l3Last_spec _ _ (by first | assumption | exact cellsOk_good (by rw [goodCells_eq]; assumption)) (by first | assumption | omega)) (evl_cons (ev_tmp rfl) (evl_cons (ev_tmp rfl) evl_nil))) ?_
    refine sq_plain rfl rfl rfl (w_assign rfl (ev_tmp rfl)) ?_
    refine sq_plain rfl rfl rfl (w_assign rfl ev_cb) ?_
    refine sq_nil ?_
    refine awp_ret ?_
    exact retN rfl (by decide) (rv_cons (rv_tmp' rfl (by rfl)) (rv_cons (rv_tmp' rfl (by rfl)) rv_nil))
theorem cellsAt_spec (l : List TCell) (t : Int) (hs : sizeL TCell.size l ≤ 4194304) : FSpec Try.prog 148 [AV.list 2 (l.map TCell.cs), AV.int t] (AV.list 3 ((cellsAt l t).map TWrite.cs)) := by
  have hl : l.length ≤ 4194304 := Nat.le_trans sizeL_len hs
  refine spec_of_awp Try.func148 rfl Try.ntmps148 rfl ?_
  refine awp_seq ?_
  refine awp_region ?_
  refine sq_plain rfl rfl rfl (w_assign rfl (ev_cnil (sz := 3))) ?_
  refine sq_nil ?_
  refine awp_seq ?_
  refine awp_region ?_
  refine sq_emptyarr rfl rfl rfl rfl Try.underlying60 Try.sizeOf65 ?_
  intro v10
  refine sq_plain rfl rfl rfl (w_assign rfl (ev_tmp rfl)) ?_
  refine sq_nil ?_
  refine awp_seq ?_
  refine awp_seq ?_
  refine awp_region ?_
  refine sq_plain rfl rfl rfl (w_move rfl (ev_tmp rfl)) ?_
  refine sq_plain rfl rfl rfl (w_llen rfl Try.underlying53 (ev_tmp rfl)) ?_
  refine sq_plain rfl rfl rfl (w_move rfl ev_ci) ?_
  refine sq_nil ?_
  refine awp_block ?_
  refine awp_loop_i2 [(1, _), (4, _), (11, _), (12, _)] _ (fun (i : Nat) (v : Value) => i ≤ l.length) (fun (i : Nat) (v : Value) => [.arr v 65 3 ((cellsAt (l.take i) t).map TWrite.cs)]) (fun (i : Nat) (v : Value) => [(5, AV.is v), (13, AV.int i)]) (fun (i : Nat) (v : Value) => l.length - i) (0) (v10) ?_ (le_eq (by rfl) ⟨rfl, rfl, rfl, rfl, rfl, rfl, trivial⟩) ?_
  · exact Nat.zero_le _
  intro i v hinv
  refine awp_seq ?_
  refine awp_region ?_
  refine sq_plain rfl rfl rfl (w_lss rfl (ev_tmp rfl) (ev_tmp rfl)) ?_
  refine sq_nil ?_
  refine awp_seq ?_
  refine awp_cond (ev_tmp rfl) ?_ ?_
  · intro h14
    have k14 := of_decide_eq_true h14; try simp only [List.length_map] at k14
    have hlt : i < l.length := by omega
    obtain ⟨x, hx⟩ := get_some hlt
    have hcl := (cell_len (Nat.le_trans (sizeL_get hx) hs)).2.1
    have hct := cellsAt_take (t := t) hx
    have hcn := cellsAt_len (l.take i) t
    have htl : (l.take i).length = i := by rw [List.length_take]; omega
    refine awp_skip ?_
    refine awp_seq ?_
    refine awp_block ?_
    refine awp_seq ?_
    refine awp_region ?_
    refine sq_plain rfl rfl rfl (w_idxm rfl Try.underlying53 Try.sizeOf153 (ev_tmp rfl) (ev_tmp rfl) hx (by first | omega | ((try simp only [List.length_map, List.length_take, List.length_cons, List.length_nil, chunks_len, szR] at *); omega) | (have hc2 := hc; simp only [Bool.and_eq_true, Bool.or_eq_true, Bool.or_eq_false_iff, Bool.and_eq_false_iff, Bool.not_eq_true', Bool.not_eq_false', decide_eq_true_eq, decide_eq_false_iff_not, beq_iff_eq, bne_iff_ne, List.length_map, List.length_take] at hc2; omega))) ?_
    refine sq_plain rfl rfl rfl (w_loadE rfl (ev_tmp rfl) Try.isAgg153 Try.sizeOf153) ?_
    refine sq_alloc rfl rfl rfl rfl Try.zeroValue153 rfl ?_
    intro b7
    refine sq_storeB0 0 rfl rfl rfl (ev_tmp rfl) (ev_tmp rfl) (as_agg _) rfl Try.sizeOf153 rfl ?_
    refine sq_nil ?_
    refine awp_seq ?_
    refine awp_region ?_
    refine sq_plain rfl rfl rfl (w_loadA 0 rfl (ev_tmp rfl) rfl Try.isAgg153 Try.sizeOf153 rfl) ?_
    refine sq_plain rfl rfl rfl (w_move rfl (ev_tmp rfl)) ?_
    refine sq_plain rfl rfl rfl (w_call rfl Try.call233 rfl (at_spec _ _ (by omega)) (evl_cons (ev_tmp rfl) (evl_cons (ev_tmp rfl) evl_nil))) ?_
    refine sq_plain rfl rfl rfl (w_move rfl (ev_tmp rfl)) ?_
    refine sq_plain rfl rfl rfl (w_extract rfl (ev_tmp rfl) rfl) ?_
    refine sq_plain rfl rfl rfl (w_extract rfl (ev_tmp rfl) rfl) ?_
    refine sq_plain rfl rfl rfl (w_assign rfl (ev_tmp rfl)) ?_
    refine sq_plain rfl rfl rfl (w_assign rfl (ev_tmp rfl)) ?_
    refine sq_nil ?_
    refine awp_seq ?_
    refine awp_region ?_
    refine sq_plain rfl rfl rfl (w_move rfl (ev_tmp rfl)) ?_
    refine sq_nil ?_
    refine awp_cond (ev_tmp rfl) ?_ ?_
    · intro h23
      have hout : (cellsAt (l.take i) t).map TWrite.cs ++ [TWrite.cs ⟨x.Key, (cellVal x t).1, false⟩] = (cellsAt (l.take (i + 1)) t).map TWrite.cs := by rw [hct, if_pos h23, List.map_append]; rfl
      refine awp_region ?_
      refine sq_plain rfl rfl rfl (w_move rfl (ev_tmp rfl)) ?_
      refine sq_plain rfl rfl rfl (w_fldBn 0 rfl Try.underlying153 rfl Try.sizeOf9 (ev_tmp rfl) rfl) ?_
      refine sq_plain rfl rfl rfl (w_loadB1 0 rfl (ev_tmp rfl) rfl Try.isAgg9 rfl) ?_
      refine sq_plain rfl rfl rfl (w_move rfl (ev_tmp rfl)) ?_
      refine sq_plain rfl rfl rfl (w_build (places := #[(0, 1), (1, 1), (2, 1)]) rfl Try.underlying65 Try.zeroValue65 (fun w => by kernel_rfl) rfl (bp_cons (ev_tmp rfl) (as_str _) (bp_cons (ev_tmp rfl) (as_str _) bp_nil)) rfl) ?_
      refine sq_plain rfl rfl rfl (w_bslice rfl Try.underlying60 Try.sizeOf65 Try.zeroValue65 rfl rfl rfl rfl (bp_cons (ev_tmp rfl) (as_agg _) bp_nil) rfl rfl) ?_
      refine sq_append (by' := 40) 1 rfl rfl rfl rfl Try.underlying60 Try.type65 rfl rfl rfl rfl rfl rfl (ev_tmp rfl) (ev_tmp rfl) rfl (by rw [List.length_map, chunks_len]; omega) ?_
      intro v30_1
      refine sq_plain rfl rfl rfl (w_assign rfl (ev_tmp rfl)) ?_
      refine sq_nil ?_
      refine awp_region ?_
      refine sq_plain rfl rfl rfl (w_addi rfl (ev_tmp rfl) ev_ci (by first | omega | ((try simp only [List.length_map, List.length_take, List.length_cons, List.length_nil, chunks_len, szR] at *); omega) | (have hc2 := hc; simp only [Bool.and_eq_true, Bool.or_eq_true, Bool.or_eq_false_iff, Bool.and_eq_false_iff, Bool.not_eq_true', Bool.not_eq_false', decide_eq_true_eq, decide_eq_false_iff_not, beq_iff_eq, bne_iff_ne, List.length_map, List.length_take] at hc2; omega))) ?_
      refine sq_plain rfl rfl rfl (w_move rfl (ev_tmp rfl)) ?_
      refine sq_nil ?_
      refine round_end2 i v (i + 1) (v30_1) ?_ ?_ (Le.trans (le_pick [0, 0] rfl) (le_dropeq 1 (by first | exact congrArg (fun z => [Own.arr _ 65 3 z]) hout) ⟨rfl, rfl, rfl, rfl, rfl, rfl, trivial⟩))
      · omega
      · omega
    · intro h23
      have hout : (cellsAt (l.take i) t).map TWrite.cs = (cellsAt (l.take (i + 1)) t).map TWrite.cs := by rw [hct, if_neg (by rw [h23]; decide), List.append_nil]
      refine awp_skip ?_
      refine awp_region ?_
      refine sq_plain rfl rfl rfl (w_addi rfl (ev_tmp rfl) ev_ci (by first | omega | ((try simp only [List.length_map, List.length_take, List.length_cons, List.length_nil, chunks_len, szR] at *); omega) | (have hc2 := hc; simp only [Bool.and_eq_true, Bool.or_eq_true, Bool.or_eq_false_iff, Bool.and_eq_false_iff, Bool.not_eq_true', Bool.not_eq_false', decide_eq_true_eq, decide_eq_false_iff_not, beq_iff_eq, bne_iff_ne, List.length_map, List.length_take] at hc2; omega))) ?_
      refine sq_plain rfl rfl rfl (w_move rfl (ev_tmp rfl)) ?_
      refine sq_nil ?_
      refine round_end2 i v (i + 1) (v) ?_ ?_ (Le.trans (le_pick [0, 0] rfl) (le_dropeq 1 (by first | exact congrArg (fun z => [Own.arr _ 65 3 z]) hout) ⟨rfl, rfl, rfl, rfl, rfl, rfl, trivial⟩))
      · omega
      · omega
  · intro h14
    have k14 := of_decide_eq_false h14; try simp only [List.length_map] at k14
    have hge : l.length ≤ i := by omega
    rw [List.take_of_length_le hge]
    refine awp_exit ?_
    refine awp_seq ?_
    refine awp_region ?_
    refine sq_plain rfl rfl rfl (w_move rfl (ev_tmp rfl)) ?_
    refine sq_plain rfl rfl rfl (w_assign rfl (ev_tmp rfl)) ?_
    refine sq_nil ?_
    refine awp_ret ?_
    refine ret_seal 0 4 rfl rfl ?_
    exact retR rfl (rv_tmp' rfl (by rfl))
theorem l3All_spec (l : List TCell) (t : Int) (hs : sizeL TCell.size l ≤ 4194304) : FSpec Try.prog 151 [AV.list 2 (l.map TCell.cs), AV.int t] (AV.list 3 ((cellsAt l t).map TWrite.cs)) := by
  have hl : l.length ≤ 4194304 := Nat.le_trans sizeL_len hs
  refine spec_of_awp Try.func151 rfl Try.ntmps151 rfl ?_
  refine awp_seq ?_
  refine awp_region ?_
  refine sq_plain rfl rfl rfl (w_assign rfl (ev_cnil (sz := 3))) ?_
  refine sq_nil ?_
  refine awp_seq ?_
  refine awp_region ?_
  refine sq_nilarr 65 3 rfl rfl rfl rfl ev_cnils ?_
  intro v5
  refine sq_nil ?_
  refine awp_seq ?_
  refine awp_seq ?_
  refine awp_region ?_
  refine sq_plain rfl rfl rfl (w_move rfl (ev_tmp rfl)) ?_
  refine sq_plain rfl rfl rfl (w_llen rfl Try.underlying53 (ev_tmp rfl)) ?_
  refine sq_plain rfl rfl rfl (w_move rfl ev_ci) ?_
  refine sq_nil ?_
  refine awp_block ?_
  refine awp_loop_i2 [(1, _), (4, _), (10, _), (11, _)] _ (fun (i : Nat) (v : Value) => i ≤ l.length) (fun (i : Nat) (v : Value) => [.arr v 65 3 ((cellsAt (l.take i) t).map TWrite.cs)]) (fun (i : Nat) (v : Value) => [(5, AV.is v), (12, AV.int i)]) (fun (i : Nat) (v : Value) => l.length - i) (0) (v5) ?_ (le_eq (by rfl) ⟨rfl, rfl, rfl, rfl, rfl, rfl, trivial⟩) ?_
  · exact Nat.zero_le _
  intro i v hinv
  refine awp_seq ?_
  refine awp_region ?_
  refine sq_plain rfl rfl rfl (w_lss rfl (ev_tmp rfl) (ev_tmp rfl)) ?_
  refine sq_nil ?_
  refine awp_seq ?_
  refine awp_cond (ev_tmp rfl) ?_ ?_
  · intro h13
    have k13 := of_decide_eq_true h13; try simp only [List.length_map] at k13
    have hlt : i < l.length := by omega
    obtain ⟨x, hx⟩ := get_some hlt
    have hcl := (cell_len (Nat.le_trans (sizeL_get hx) hs)).2.1
    have hct := cellsAt_take (t := t) hx
    have hcn := cellsAt_len (l.take i) t
    have htl : (l.take i).length = i := by rw [List.length_take]; omega
    rw [cellVal_verAt] at hct
    refine awp_skip ?_
    refine awp_seq ?_
    refine awp_block ?_
    refine awp_seq ?_
    refine awp_region ?_
    refine sq_plain rfl rfl rfl (w_idxm rfl Try.underlying53 Try.sizeOf153 (ev_tmp rfl) (ev_tmp rfl) hx (by first | omega | ((try simp only [List.length_map, List.length_take, List.length_cons, List.length_nil, chunks_len, szR] at *); omega) | (have hc2 := hc; simp only [Bool.and_eq_true, Bool.or_eq_true, Bool.or_eq_false_iff, Bool.and_eq_false_iff, Bool.not_eq_true', Bool.not_eq_false', decide_eq_true_eq, decide_eq_false_iff_not, beq_iff_eq, bne_iff_ne, List.length_map, List.length_take] at hc2; omega))) ?_
    refine sq_plain rfl rfl rfl (w_loadE rfl (ev_tmp rfl) Try.isAgg153 Try.sizeOf153) ?_
    refine sq_alloc rfl rfl rfl rfl Try.zeroValue153 rfl ?_
    intro b7
    refine sq_storeB0 0 rfl rfl rfl (ev_tmp rfl) (ev_tmp rfl) (as_agg _) rfl Try.sizeOf153 rfl ?_
    refine sq_nil ?_
    refine awp_seq ?_
    refine awp_region ?_
    refine sq_plain rfl rfl rfl (w_loadA 0 rfl (ev_tmp rfl) rfl Try.isAgg153 Try.sizeOf153 rfl) ?_
    refine sq_plain rfl rfl rfl (w_move rfl (ev_tmp rfl)) ?_
    refine sq_plain rfl rfl rfl (w_call rfl Try.call236 rfl (l3Ver_spec _ _ (by first | assumption | omega)) (evl_cons (ev_tmp rfl) (evl_cons (ev_tmp rfl) evl_nil))) ?_
    refine sq_plain rfl rfl rfl (w_move rfl (ev_tmp rfl)) ?_
    refine sq_plain rfl rfl rfl (w_extract rfl (ev_tmp rfl) rfl) ?_
    refine sq_plain rfl rfl rfl (w_extract rfl (ev_tmp rfl) rfl) ?_
    refine sq_alloc rfl rfl rfl rfl Try.zeroValue155 rfl ?_
    intro b8
    refine sq_storeB0 0 rfl rfl rfl (ev_tmp rfl) (ev_tmp rfl) (as_agg _) rfl Try.sizeOf155 rfl ?_
    refine sq_plain rfl rfl rfl (w_assign rfl (ev_tmp rfl)) ?_
    refine sq_nil ?_
    refine awp_seq ?_
    refine awp_region ?_
    refine sq_plain rfl rfl rfl (w_move rfl (ev_tmp rfl)) ?_
    refine sq_plain rfl rfl rfl (w_move rfl (ev_tmp rfl)) ?_
    refine sq_grd rfl rfl (guard_t rfl rfl rfl) (fun hc => w_fldBn 2 rfl Try.underlying155 rfl Try.sizeOf4 (ev_tmp rfl) rfl) ?_
    refine sq_grd rfl rfl (guard_t rfl rfl rfl) (fun hc => w_loadB1 0 rfl (ev_whn rfl hc) rfl Try.isAgg4 rfl) ?_
    refine sq_grd rfl rfl (guard_t rfl rfl rfl) (fun hc => w_not rfl (ev_whn rfl hc)) ?_
    refine sq_plain rfl rfl rfl (w_and rfl (ev_tmp rfl) (evif_w rfl)) ?_
    refine sq_nil ?_
    refine awp_cond (ev_tmp rfl) ?_ ?_
    · intro h27
      have hout : (cellsAt (l.take i) t).map TWrite.cs ++ [TWrite.cs ⟨x.Key, ((verAt x.Vers t).getD zV).Val, false⟩] = (cellsAt (l.take (i + 1)) t).map TWrite.cs := by rw [hct, if_pos h27, List.map_append]; rfl
      refine awp_region ?_
      refine sq_plain rfl rfl rfl (w_move rfl (ev_tmp rfl)) ?_
      refine sq_plain rfl rfl rfl (w_fldBn 0 rfl Try.underlying153 rfl Try.sizeOf9 (ev_tmp rfl) rfl) ?_
      refine sq_plain rfl rfl rfl (w_loadB1 1 rfl (ev_tmp rfl) rfl Try.isAgg9 rfl) ?_
      refine sq_plain rfl rfl rfl (w_fldBn 1 rfl Try.underlying155 rfl Try.sizeOf9 (ev_tmp rfl) rfl) ?_
      refine sq_plain rfl rfl rfl (w_loadB1 0 rfl (ev_tmp rfl) rfl Try.isAgg9 rfl) ?_
      refine sq_plain rfl rfl rfl (w_build (places := #[(0, 1), (1, 1), (2, 1)]) rfl Try.underlying65 Try.zeroValue65 (fun w => by kernel_rfl) rfl (bp_cons (ev_tmp rfl) (as_str _) (bp_cons (ev_tmp rfl) (as_str _) bp_nil)) rfl) ?_
      refine sq_plain rfl rfl rfl (w_bslice rfl Try.underlying60 Try.sizeOf65 Try.zeroValue65 rfl rfl rfl rfl (bp_cons (ev_tmp rfl) (as_agg _) bp_nil) rfl rfl) ?_
      refine sq_append (by' := 40) 2 rfl rfl rfl rfl Try.underlying60 Try.type65 rfl rfl rfl rfl rfl rfl (ev_tmp rfl) (ev_tmp rfl) rfl (by rw [List.length_map, chunks_len]; omega) ?_
      intro v35_1
      refine sq_plain rfl rfl rfl (w_assign rfl (ev_tmp rfl)) ?_
      refine sq_nil ?_
      refine awp_region ?_
      refine sq_plain rfl rfl rfl (w_addi rfl (ev_tmp rfl) ev_ci (by first | omega | ((try simp only [List.length_map, List.length_take, List.length_cons, List.length_nil, chunks_len, szR] at *); omega) | (have hc2 := hc; simp only [Bool.and_eq_true, Bool.or_eq_true, Bool.or_eq_false_iff, Bool.and_eq_false_iff, Bool.not_eq_true', Bool.not_eq_false', decide_eq_true_eq, decide_eq_false_iff_not, beq_iff_eq, bne_iff_ne, List.length_map, List.length_take] at hc2; omega))) ?_
      refine sq_plain rfl rfl rfl (w_move rfl (ev_tmp rfl)) ?_
      refine sq_nil ?_
      refine round_end2 i v (i + 1) (v35_1) ?_ ?_ (Le.trans (le_pick [0, 0, 0] rfl) (le_dropeq 2 (by exact congrArg (fun z => [Own.arr _ 65 3 z]) hout) ⟨rfl, rfl, rfl, rfl, rfl, rfl, trivial⟩))
      · omega
      · omega
    · intro h27
      have hout : (cellsAt (l.take i) t).map TWrite.cs = (cellsAt (l.take (i + 1)) t).map TWrite.cs := by rw [hct, if_neg (by rw [h27]; simp), List.append_nil]
      refine awp_skip ?_
      refine awp_region ?_
      refine sq_plain rfl rfl rfl (w_addi rfl (ev_tmp rfl) ev_ci (by first | omega | ((try simp only [List.length_map, List.length_take, List.length_cons, List.length_nil, chunks_len, szR] at *); omega) | (have hc2 := hc; simp only [Bool.and_eq_true, Bool.or_eq_true, Bool.or_eq_false_iff, Bool.and_eq_false_iff, Bool.not_eq_true', Bool.not_eq_false', decide_eq_true_eq, decide_eq_false_iff_not, beq_iff_eq, bne_iff_ne, List.length_map, List.length_take] at hc2; omega))) ?_
      refine sq_plain rfl rfl rfl (w_move rfl (ev_tmp rfl)) ?_
      refine sq_nil ?_
      refine round_end2 i v (i + 1) (v) ?_ ?_ (Le.trans (le_pick [0, 0, 0] rfl) (le_dropeq 2 (by exact congrArg (fun z => [Own.arr _ 65 3 z]) hout) ⟨rfl, rfl, rfl, rfl, rfl, rfl, trivial⟩))
      · omega
      · omega
  · intro h13
    have k13 := of_decide_eq_false h13; try simp only [List.length_map] at k13
    have hge : l.length ≤ i := by omega
    rw [List.take_of_length_le hge]
    refine awp_exit ?_
    refine awp_seq ?_
    refine awp_region ?_
    refine sq_plain rfl rfl rfl (w_move rfl (ev_tmp rfl)) ?_
    refine sq_plain rfl rfl rfl (w_assign rfl (ev_tmp rfl)) ?_
    refine sq_nil ?_
    refine awp_ret ?_
    refine ret_seal 0 4 rfl rfl ?_
    exact retR rfl (rv_tmp' rfl (by rfl))
theorem cellsAtR_spec (l : List TCell) (t : Int) (hs : sizeL TCell.size l ≤ 4194304) : FSpec Try.prog 50 [AV.list 2 (l.map TCell.cs), AV.int t] (AV.tup [AV.list 3 ((cellsAtR l t).1.map TWrite.cs), AV.bool (cellsAtR l t).2]) := by
  refine spec_of_awp Try.func50 rfl Try.ntmps50 rfl ?_
  refine awp_seq ?_
  refine awp_region ?_
  refine sq_plain rfl rfl rfl (w_assign rfl (ev_cnil (sz := 3))) ?_
  refine sq_plain rfl rfl rfl (w_assign rfl ev_cb) ?_
  refine sq_nil ?_
  refine awp_seq ?_
  refine awp_seq ?_
  refine awp_region ?_
  refine sq_plain rfl rfl rfl (w_move rfl (ev_tmp rfl)) ?_
  refine sq_plain rfl rfl rfl (w_call rfl Try.call49 rfl (goodCells_spec _ (by first | assumption | omega)) (evl_cons (ev_tmp rfl) evl_nil)) ?_
  refine sq_plain rfl rfl rfl (w_not rfl (ev_tmp rfl)) ?_
  refine sq_plain rfl rfl rfl (w_move rfl (ev_tmp rfl)) ?_
  refine sq_grd rfl rfl (guard_f rfl rfl rfl) (fun hc => w_move rfl (ev_tmp rfl)) ?_
  refine sq_grd rfl rfl (guard_f rfl rfl rfl) (fun hc => w_call rfl Try.call141 rfl (isTrue_spec _) (evl_cons (ev_whn rfl hc) evl_nil)) ?_
  refine sq_grd rfl rfl (guard_f rfl rfl rfl) (fun hc => w_not rfl (ev_whn rfl hc)) ?_
  refine sq_plain rfl rfl rfl (w_or rfl (ev_tmp rfl) (evif_w rfl)) ?_
  refine sq_nil ?_
  refine awp_cond (ev_tmp rfl) ?_ ?_
  · intro h13
    have he : cellsAtR l t = ([], false) := by unfold cellsAtR; rw [if_pos h13]
    rw [he]
    refine awp_seq ?_
    refine awp_region ?_
    refine sq_plain rfl rfl rfl (w_assign rfl (ev_cnil (sz := 3))) ?_
    refine sq_plain rfl rfl rfl (w_assign rfl ev_cb) ?_
    refine sq_nil ?_
    refine awp_ret ?_
    exact retN rfl (by decide) (rv_cons (rv_tmp' rfl (by rfl)) (rv_cons (rv_tmp' rfl (by rfl)) rv_nil))
  · intro h13
    have he : cellsAtR l t = (cellsAt l t, true) := by unfold cellsAtR; rw [if_neg (by rw [h13]; decide)]
    rw [he]
    refine awp_skip ?_
    refine awp_seq ?_
    refine awp_region ?_
    refine sq_plain rfl rfl rfl (w_move rfl (ev_tmp rfl)) ?_
    refine sq_plain rfl rfl rfl (w_move rfl (ev_tmp rfl)) ?_
    refine sq_plain rfl rfl rfl (w_call rfl Try.call148 rfl (cellsAt_spec _ _ (by first | assumption | omega)) (evl_cons (ev_tmp rfl) (evl_cons (ev_tmp rfl) evl_nil))) ?_
    refine sq_plain rfl rfl rfl (w_assign rfl (ev_tmp rfl)) ?_
    refine sq_plain rfl rfl rfl (w_assign rfl ev_cb) ?_
    refine sq_nil ?_
    refine awp_ret ?_
    exact retN rfl (by decide) (rv_cons (rv_tmp' rfl (by rfl)) (rv_cons (rv_tmp' rfl (by rfl)) rv_nil))
theorem cellsAtS_spec (l : List TCell) (t : Int) (hs : sizeL TCell.size l ≤ 4194304) : FSpec Try.prog 54 [AV.list 2 (l.map TCell.cs), AV.int t] (AV.tup [AV.list 3 ((cellsAtS l t).1.map TWrite.cs), AV.bool (cellsAtS l t).2]) := by
  refine spec_of_awp Try.func54 rfl Try.ntmps54 rfl ?_
  refine awp_seq ?_
  refine awp_region ?_
  refine sq_plain rfl rfl rfl (w_assign rfl (ev_cnil (sz := 3))) ?_
  refine sq_plain rfl rfl rfl (w_assign rfl ev_cb) ?_
  refine sq_nil ?_
  refine awp_seq ?_
  refine awp_seq ?_
  refine awp_region ?_
  refine sq_plain rfl rfl rfl (w_move rfl (ev_tmp rfl)) ?_
  refine sq_plain rfl rfl rfl (w_call rfl Try.call143 rfl (l3Good_spec _ (by first | assumption | omega)) (evl_cons (ev_tmp rfl) evl_nil)) ?_
  refine sq_plain rfl rfl rfl (w_not rfl (ev_tmp rfl)) ?_
  refine sq_plain rfl rfl rfl (w_move rfl (ev_tmp rfl)) ?_
  refine sq_grd rfl rfl (guard_f rfl rfl rfl) (fun hc => w_move rfl (ev_tmp rfl)) ?_
  refine sq_grd rfl rfl (guard_f rfl rfl rfl) (fun hc => w_call rfl Try.call144 rfl (l2True_spec _) (evl_cons (ev_whn rfl hc) evl_nil)) ?_
  refine sq_grd rfl rfl (guard_f rfl rfl rfl) (fun hc => w_not rfl (ev_whn rfl hc)) ?_
  refine sq_plain rfl rfl rfl (w_or rfl (ev_tmp rfl) (evif_w rfl)) ?_
  refine sq_nil ?_
  refine awp_cond (ev_tmp rfl) ?_ ?_
  · intro h13
    have he : cellsAtS l t = ([], false) := by unfold cellsAtS; rw [if_pos h13]
    rw [he]
    refine awp_seq ?_
    refine awp_region ?_
    refine sq_plain rfl rfl rfl (w_assign rfl (ev_cnil (sz := 3))) ?_
    refine sq_plain rfl rfl rfl (w_assign rfl ev_cb) ?_
    refine sq_nil ?_
    refine awp_ret ?_
    exact retN rfl (by decide) (rv_cons (rv_tmp' rfl (by rfl)) (rv_cons (rv_tmp' rfl (by rfl)) rv_nil))
  · intro h13
    have he : cellsAtS l t = (cellsAt l t, true) := by unfold cellsAtS; rw [if_neg (by rw [h13]; decide)]
    rw [he]
    refine awp_skip ?_
    refine awp_seq ?_
    refine awp_region ?_
    refine sq_plain rfl rfl rfl (w_move rfl (ev_tmp rfl)) ?_
    refine sq_plain rfl rfl rfl (w_move rfl (ev_tmp rfl)) ?_
    refine sq_plain rfl rfl rfl (w_call rfl Try.call151 rfl (l3All_spec _ _ (by first | assumption | omega)) (evl_cons (ev_tmp rfl) (evl_cons (ev_tmp rfl) evl_nil))) ?_
    refine sq_plain rfl rfl rfl (w_assign rfl (ev_tmp rfl)) ?_
    refine sq_plain rfl rfl rfl (w_assign rfl ev_cb) ?_
    refine sq_nil ?_
    refine awp_ret ?_
    exact retN rfl (by decide) (rv_cons (rv_tmp' rfl (by rfl)) (rv_cons (rv_tmp' rfl (by rfl)) rv_nil))
theorem pSameWrites_spec (a b : List TWrite) : FSpec Try.prog 51 [AV.list 3 (a.map TWrite.cs), AV.list 3 (b.map TWrite.cs)] (AV.bool (decide (a = b))) := by
  refine spec_of_awp Try.func51 rfl Try.ntmps51 rfl ?_
  refine awp_len (t := 0) rfl fun hl => ?_
  try simp only [List.length_map] at hl
  refine awp_seq ?_
  refine awp_region ?_
  refine sq_plain rfl rfl rfl (w_assign rfl ev_cb) ?_
  refine sq_nil ?_
  refine awp_seq ?_
  refine awp_seq ?_
  refine awp_region ?_
  refine sq_plain rfl rfl rfl (w_move rfl (ev_tmp rfl)) ?_
  refine sq_plain rfl rfl rfl (w_llen rfl Try.underlying60 (ev_tmp rfl)) ?_
  refine sq_plain rfl rfl rfl (w_move rfl (ev_tmp rfl)) ?_
  refine sq_plain rfl rfl rfl (w_llen rfl Try.underlying60 (ev_tmp rfl)) ?_
  refine sq_plain rfl rfl rfl (w_neq rfl (ev_tmp rfl) (ev_tmp rfl)) ?_
  refine sq_nil ?_
  refine awp_cond (ev_tmp rfl) ?_ ?_
  · intro h10
    have k10 := ne_of_bne h10; try simp only [List.length_map] at k10
    have hab : a ≠ b := by intro hc; subst hc; exact k10 rfl
    refine awp_seq ?_
    refine awp_region ?_
    refine sq_plain rfl rfl rfl (w_assign rfl ev_cb) ?_
    refine sq_nil ?_
    refine awp_ret ?_
    exact retR rfl (rv_tmp' rfl (by exact congrArg AV.bool (by simp [hab])))
  · intro h10
    have k10 := eq_of_bne_false h10; try simp only [List.length_map] at k10
    have heq : a.length = b.length := by omega
    refine awp_skip ?_
    refine awp_seq ?_
    refine awp_seq ?_
    refine awp_region ?_
    refine sq_plain rfl rfl rfl (w_move rfl (ev_tmp rfl)) ?_
    refine sq_plain rfl rfl rfl (w_llen rfl Try.underlying60 (ev_tmp rfl)) ?_
    refine sq_plain rfl rfl rfl (w_move rfl ev_ci) ?_
    refine sq_nil ?_
    refine awp_block ?_
    refine awp_loop_i [(0, _), (1, _), (12, _)] _ (fun (i : Nat) => i ≤ a.length ∧ a.take i = b.take i) (fun (i : Nat) => []) (fun (i : Nat) => [(13, AV.int i)]) (fun (i : Nat) => a.length - i) (0) ?_ (le_env ⟨rfl, rfl, rfl, rfl, trivial⟩) ?_
    · exact ⟨Nat.zero_le _, rfl⟩
    intro i hinv
    refine awp_seq ?_
    refine awp_region ?_
    refine sq_plain rfl rfl rfl (w_lss rfl (ev_tmp rfl) (ev_tmp rfl)) ?_
    refine sq_nil ?_
    refine awp_seq ?_
    refine awp_cond (ev_tmp rfl) ?_ ?_
    · intro h14
      have k14 := of_decide_eq_true h14; try simp only [List.length_map] at k14
      have hlt : i < a.length := by omega
      obtain ⟨x, hx⟩ := get_some hlt
      obtain ⟨y, hy⟩ := get_some (show i < b.length by omega)
      refine awp_skip ?_
      refine awp_seq ?_
      refine awp_block ?_
      refine awp_seq ?_
      refine awp_region ?_
      refine sq_plain rfl rfl rfl (w_move rfl (ev_tmp rfl)) ?_
      refine sq_plain rfl rfl rfl (w_assign rfl (ev_tmp rfl)) ?_
      refine sq_nil ?_
      refine awp_seq ?_
      refine awp_region_any (by kernel_rfl) (by kernel_rfl) rfl ?_
      refine ch_plain rfl rfl (w_move rfl (ev_tmp rfl)) ?_
      refine ch_plain rfl rfl (w_move rfl (ev_tmp rfl)) ?_
      refine ch_plain rfl rfl (w_idxm rfl Try.underlying60 Try.sizeOf65 (ev_tmp rfl) (ev_tmp rfl) hx (by first | omega | ((try simp only [List.length_map, List.length_take, List.length_cons, List.length_nil, chunks_len, szR] at *); omega) | (have hc2 := hc; simp only [Bool.and_eq_true, Bool.or_eq_true, Bool.or_eq_false_iff, Bool.and_eq_false_iff, Bool.not_eq_true', Bool.not_eq_false', decide_eq_true_eq, decide_eq_false_iff_not, beq_iff_eq, bne_iff_ne, List.length_map, List.length_take] at hc2; omega))) ?_
      refine ch_plain rfl rfl (w_loadE rfl (ev_tmp rfl) Try.isAgg65 Try.sizeOf65) ?_
      refine ch_plain rfl rfl (w_move rfl (ev_tmp rfl)) ?_
      refine ch_plain rfl rfl (w_move rfl (ev_tmp rfl)) ?_
      refine ch_plain rfl rfl (w_idxm rfl Try.underlying60 Try.sizeOf65 (ev_tmp rfl) (ev_tmp rfl) hy (by first | omega | ((try simp only [List.length_map, List.length_take, List.length_cons, List.length_nil, chunks_len, szR] at *); omega) | (have hc2 := hc; simp only [Bool.and_eq_true, Bool.or_eq_true, Bool.or_eq_false_iff, Bool.and_eq_false_iff, Bool.not_eq_true', Bool.not_eq_false', decide_eq_true_eq, decide_eq_false_iff_not, beq_iff_eq, bne_iff_ne, List.length_map, List.length_take] at hc2; omega))) ?_
      refine ch_plain rfl rfl (w_loadE rfl (ev_tmp rfl) Try.isAgg65 Try.sizeOf65) ?_
      refine ch_plain rfl rfl (w_aneq rfl Try.underlying65 (by kernel_rfl) (by kernel_rfl) (ev_tmp rfl) (ev_tmp rfl) (eqf_cons (by kernel_rfl) Try.isAgg9 rfl rfl (eqf_str Try.underlying9) (eqf_cons (by kernel_rfl) Try.isAgg9 rfl rfl (eqf_str Try.underlying9) (eqf_cons (by kernel_rfl) Try.isAgg4 rfl rfl (eqf_bool Try.underlying4) eqf_nil)))) ?_
      refine ch_nil ?_
      refine awp_cond (ev_tmp rfl) ?_ ?_
      · intro h24
        have hab : a ≠ b := by intro hc; subst hc; rw [hx] at hy; injection hy with hy; subst hy; simp at h24
        refine awp_seq ?_
        refine awp_region ?_
        refine sq_plain rfl rfl rfl (w_assign rfl ev_cb) ?_
        refine sq_nil ?_
        refine awp_ret ?_
        exact retR rfl (rv_tmp' rfl (by exact congrArg AV.bool (by simp [hab])))
      · intro h24
        refine awp_skip ?_
        refine awp_region ?_
        refine sq_plain rfl rfl rfl (w_addi rfl (ev_tmp rfl) ev_ci (by first | omega | ((try simp only [List.length_map, List.length_take, List.length_cons, List.length_nil, chunks_len, szR] at *); omega) | (have hc2 := hc; simp only [Bool.and_eq_true, Bool.or_eq_true, Bool.or_eq_false_iff, Bool.and_eq_false_iff, Bool.not_eq_true', Bool.not_eq_false', decide_eq_true_eq, decide_eq_false_iff_not, beq_iff_eq, bne_iff_ne, List.length_map, List.length_take] at hc2; omega))) ?_
        refine sq_plain rfl rfl rfl (w_move rfl (ev_tmp rfl)) ?_
        refine sq_nil ?_
        refine round_end i (i + 1) ?_ ?_ (le_env ⟨rfl, rfl, rfl, rfl, trivial⟩)
        · exact ⟨by omega, take_eq_succ hinv.2 hx (by rw [hy]; congr 1; first | (simp_all; done) | (cases x; cases y; simp_all))⟩
        · omega
    · intro h14
      have k14 := of_decide_eq_false h14; try simp only [List.length_map] at k14
      have hge : a.length ≤ i := by omega
      have hab : a = b := take_eq_of heq hinv.2 hge
      refine awp_exit ?_
      refine awp_seq ?_
      refine awp_region ?_
      refine sq_plain rfl rfl rfl (w_assign rfl ev_cb) ?_
      refine sq_nil ?_
      refine awp_ret ?_
      exact retR rfl (rv_tmp' rfl (by exact congrArg AV.bool (by simp [hab])))
end Go.Proofs.Yteliahajeokciaa

set_option linter.unusedVariables false
set_option linter.unusedSimpArgs false
set_option maxRecDepth 100000
set_option maxHeartbeats 1000000
namespace Go.Proofs.Yteliahajeokciaa
open Go Go.AV Go.M
attribute [local irreducible] OpW OpA OpS AWP FSpec ESpec GSpec OpE RetOk RetOkG RvDen Le Ev GuardIs SrcIs Int.tmod IntKind.wrap bandI
def keysD : List Str := [[97], [98], [99], [105, 47, 120, 47, 49], [109], [110], [114, 47, 49], [122]]
theorem keysD_len {s : Str} {i : Nat} (h : keysD[i]? = some s) : s.length ≤ 5 := by
  have : ∀ s ∈ keysD, s.length ≤ 5 := by decide
  exact this s (List.mem_of_getElem? h)
theorem curWrites_own (b : Nat) (code : List Int) (hcode : ByteL code) (c : TCur) (hp : c.p ≤ 3000000) : GSpec Try.prog 240 [AV.ptr b 0] [.box b 123 (curC code c)] (fun x : TCur × List TWrite × Value => x.1.p ≤ c.p + 48 ∧ sizeL TWrite.size x.2.1 ≤ 560) (fun x => [.box b 123 (curC code x.1), .arr x.2.2 65 3 (x.2.1.map TWrite.cs)]) (fun x => AV.is x.2.2) := by
  refine gspec_of_awp Try.func240 rfl Try.ntmps240 rfl ?_
  refine awp_seq ?_
  refine awp_region ?_
  refine sq_plain rfl rfl rfl (w_assign rfl ev_cnils) ?_
  refine sq_nil ?_
  refine awp_seq ?_
  refine awp_region ?_
  refine sq_nilarr 65 3 rfl rfl rfl rfl ev_cnils ?_
  intro v3
  refine sq_nil ?_
  refine awp_seq ?_
  refine awp_seq ?_
  refine awp_region ?_
  refine sq_plain rfl rfl rfl (w_bslice rfl Try.underlying29 Try.sizeOf9 Try.zeroValue9 rfl rfl rfl rfl (bp_cons (ev_cs' (l := [97]) rfl) (as_str _) (bp_cons (ev_cs' (l := [98]) rfl) (as_str _) (bp_cons (ev_cs' (l := [99]) rfl) (as_str _) (bp_cons (ev_cs' (l := [105, 47, 120, 47, 49]) rfl) (as_str _) (bp_cons (ev_cs' (l := [109]) rfl) (as_str _) (bp_cons (ev_cs' (l := [110]) rfl) (as_str _) (bp_cons (ev_cs' (l := [114, 47, 49]) rfl) (as_str _) (bp_cons (ev_cs' (l := [122]) rfl) (as_str _) bp_nil)))))))) rfl rfl) ?_
  refine sq_plain rfl rfl rfl (w_llen rfl Try.underlying29 (ev_tmp rfl)) ?_
  refine sq_plain rfl rfl rfl (w_move rfl ev_ci) ?_
  refine sq_nil ?_
  refine awp_block ?_
  refine AWP.le (le_pick [1, 0] rfl) ?_
  refine awp_loop_i4 [(0, _), (2, _), (6, _), (7, _)] _ (fun (i : Nat) (cc : TCur) (l : List TWrite) (v : Value) => i ≤ 8 ∧ cc.p ≤ c.p + 6 * i ∧ sizeL TWrite.size l ≤ 70 * i) (fun (i : Nat) (cc : TCur) (l : List TWrite) (v : Value) => [.box b 123 (curC code cc), .arr v 65 3 (l.map TWrite.cs)]) (fun (i : Nat) (cc : TCur) (l : List TWrite) (v : Value) => [(3, AV.is v), (8, AV.int i)]) (fun (i : Nat) (cc : TCur) (l : List TWrite) (v : Value) => 8 - i) (0) (c) ([]) (v3) ?_ (le_eq (by rfl) ⟨rfl, rfl, rfl, rfl, rfl, rfl, trivial⟩) ?_
  · exact ⟨by omega, by omega, by simp [sizeL]⟩
  intro i cc l v hinv
  refine awp_seq ?_
  refine awp_region ?_
  refine sq_plain rfl rfl rfl (w_lss rfl (ev_tmp rfl) (ev_tmp rfl)) ?_
  refine sq_nil ?_
  refine awp_seq ?_
  refine awp_cond (ev_tmp rfl) ?_ ?_
  · intro h9
    have k9 := of_decide_eq_true h9; try simp only [List.length_map] at k9
    have hlt : i < 8 := by simp only [chunks_len] at k9; omega
    obtain ⟨y, hy⟩ := get_some (show i < keysD.length from hlt)
    have hyl := keysD_len hy
    have hyy : (keysD.map fun s => [AV.str s])[i]? = some [AV.str y] := by rw [List.getElem?_map, hy]; rfl
    have hll : l.length ≤ 560 := by have := sizeL_len (f := TWrite.size) (l := l); omega
    refine awp_skip ?_
    refine awp_seq ?_
    refine awp_block ?_
    refine awp_seq ?_
    refine awp_region ?_
    refine sq_plain rfl rfl rfl (w_idx rfl Try.underlying29 Try.sizeOf9 (ev_tmp rfl) (ev_tmp rfl) (by omega) (by rw [Int.toNat_natCast]; exact hyy)) ?_
    refine sq_plain rfl rfl rfl (w_loadE1 rfl (ev_tmp rfl) Try.isAgg9 rfl) ?_
    refine sq_plain rfl rfl rfl (w_assign rfl (ev_tmp rfl)) ?_
    refine sq_nil ?_
    refine awp_seq ?_
    refine awp_region ?_
    refine sq_plain rfl rfl rfl (w_move rfl (ev_tmp rfl)) ?_
    refine sq_callG [0] rfl rfl rfl rfl Try.call170 rfl (curOne_own _ _ hcode _ _ (by omega) (by omega)) (evl_cons (ev_tmp rfl) (evl_cons ev_ci evl_nil)) rfl ?_
    intro x13 ok13
    refine sq_nil ?_
    refine awp_cond (ev_tmp rfl) ?_ ?_
    · intro h13
      refine awp_region ?_
      refine sq_plain rfl rfl rfl (w_move rfl (ev_tmp rfl)) ?_
      refine sq_plain rfl rfl rfl (w_move rfl (ev_tmp rfl)) ?_
      refine sq_plain rfl rfl rfl (w_move rfl (ev_tmp rfl)) ?_
      refine sq_callG [0] rfl rfl rfl rfl Try.call278 rfl (curWrite_own _ _ hcode _ _ (by omega)) (evl_cons (ev_tmp rfl) (evl_cons (ev_tmp rfl) evl_nil)) rfl ?_
      intro x17 ok17
      refine sq_plain rfl rfl rfl (w_bslice rfl Try.underlying60 Try.sizeOf65 Try.zeroValue65 rfl rfl rfl rfl (bp_cons (ev_tmp rfl) (as_agg _) bp_nil) rfl rfl) ?_
      refine sq_append (by' := 40) 1 rfl rfl rfl rfl Try.underlying60 Try.type65 rfl rfl rfl rfl rfl rfl (ev_tmp rfl) (ev_tmp rfl) rfl (by first | omega | ((try simp only [List.length_map, List.length_take, List.length_cons, List.length_nil, chunks_len, szR] at *); omega) | (have hc2 := hc; simp only [Bool.and_eq_true, Bool.or_eq_true, Bool.or_eq_false_iff, Bool.and_eq_false_iff, Bool.not_eq_true', Bool.not_eq_false', decide_eq_true_eq, decide_eq_false_iff_not, beq_iff_eq, bne_iff_ne, List.length_map, List.length_take] at hc2; omega)) ?_
      intro v19_1
      refine sq_plain rfl rfl rfl (w_assign rfl (ev_tmp rfl)) ?_
      refine sq_nil ?_
      refine awp_region ?_
      refine sq_plain rfl rfl rfl (w_addi rfl (ev_tmp rfl) ev_ci (by first | omega | ((try simp only [List.length_map, List.length_take, List.length_cons, List.length_nil, chunks_len, szR] at *); omega) | (have hc2 := hc; simp only [Bool.and_eq_true, Bool.or_eq_true, Bool.or_eq_false_iff, Bool.and_eq_false_iff, Bool.not_eq_true', Bool.not_eq_false', decide_eq_true_eq, decide_eq_false_iff_not, beq_iff_eq, bne_iff_ne, List.length_map, List.length_take] at hc2; omega))) ?_
      refine sq_plain rfl rfl rfl (w_move rfl (ev_tmp rfl)) ?_
      refine sq_nil ?_
      refine round_end4 i cc l v (i + 1) (x17.1) (l ++ [x17.2]) (v19_1) ?_ ?_ (Le.trans (le_pick [0, 0] rfl) (le_eq (by first | rfl | (rw [List.map_append]; rfl)) ⟨rfl, rfl, rfl, rfl, rfl, rfl, trivial⟩))
      · exact ⟨by omega, by omega, by (have h9 : x17.2.size ≤ 69 := by unfold TWrite.size; rw [ok17.2.1]; omega); rw [sizeL_append, sizeL_cons]; simp only [sizeL, List.length_nil, List.map_nil, List.sum_nil] at *; omega⟩
      · omega
    · intro h13
      refine awp_skip ?_
      refine awp_region ?_
      refine sq_plain rfl rfl rfl (w_addi rfl (ev_tmp rfl) ev_ci (by first | omega | ((try simp only [List.length_map, List.length_take, List.length_cons, List.length_nil, chunks_len, szR] at *); omega) | (have hc2 := hc; simp only [Bool.and_eq_true, Bool.or_eq_true, Bool.or_eq_false_iff, Bool.and_eq_false_iff, Bool.not_eq_true', Bool.not_eq_false', decide_eq_true_eq, decide_eq_false_iff_not, beq_iff_eq, bne_iff_ne, List.length_map, List.length_take] at hc2; omega))) ?_
      refine sq_plain rfl rfl rfl (w_move rfl (ev_tmp rfl)) ?_
      refine sq_nil ?_
      refine round_end4 i cc l v (i + 1) (x13.1) (l) (v) ?_ ?_ (Le.trans (le_pick [0, 0] rfl) (le_eq (by first | rfl | (rw [List.map_append]; rfl)) ⟨rfl, rfl, rfl, rfl, rfl, rfl, trivial⟩))
      · exact ⟨by omega, by omega, by omega⟩
      · omega
  · intro h9
    have k9 := of_decide_eq_false h9; try simp only [List.length_map] at k9
    refine awp_exit ?_
    refine awp_seq ?_
    refine awp_region ?_
    refine sq_plain rfl rfl rfl (w_move rfl (ev_tmp rfl)) ?_
    refine sq_plain rfl rfl rfl (w_assign rfl (ev_tmp rfl)) ?_
    refine sq_nil ?_
    refine awp_ret ?_
    (refine retG [0, 0] ((cc, l, v)) ?_ rfl (by first | (dsimp only; rfl) | rfl) (resR rfl (rv_tmp' rfl (by rfl))); exact ⟨show cc.p ≤ _ by omega, show sizeL TWrite.size l ≤ _ by omega⟩)
theorem curAnyWrites_own (b : Nat) (code : List Int) (hcode : ByteL code) (c : TCur) (hp : c.p ≤ 2000000) : GSpec Try.prog 154 [AV.ptr b 0] [.box b 123 (curC code c)] (fun x : TCur × List TWrite × Value => x.1.p ≤ c.p + 60 ∧ sizeL TWrite.size x.2.1 ≤ 700) (fun x => [.box b 123 (curC code x.1), .arr x.2.2 65 3 (x.2.1.map TWrite.cs)]) (fun x => AV.is x.2.2) := by
  refine gspec_of_awp Try.func154 rfl Try.ntmps154 rfl ?_
  refine awp_seq ?_
  refine awp_region ?_
  refine sq_plain rfl rfl rfl (w_assign rfl ev_cnils) ?_
  refine sq_nil ?_
  refine awp_seq ?_
  refine awp_region ?_
  refine sq_plain rfl rfl rfl (w_move rfl (ev_tmp rfl)) ?_
  refine sq_callG [0] rfl rfl rfl rfl Try.call240 rfl (curWrites_own _ _ hcode _ (by omega)) (evl_cons (ev_tmp rfl) evl_nil) rfl ?_
  intro x5 ok5
  refine sq_plain rfl rfl rfl (w_assign rfl (ev_tmp rfl)) ?_
  refine sq_nil ?_
  refine awp_seq ?_
  refine awp_seq ?_
  refine awp_region ?_
  refine sq_plain rfl rfl rfl (w_move rfl (ev_tmp rfl)) ?_
  refine sq_plain rfl rfl rfl (w_alen 1 rfl Try.underlying60 (ev_tmp rfl) rfl) ?_
  refine sq_plain rfl rfl rfl (w_gtr rfl (ev_tmp rfl) ev_ci) ?_
  refine sq_nil ?_
  refine awp_cond (ev_tmp rfl) ?_ ?_
  · intro h8
    have k8 := of_decide_eq_true h8; try simp only [List.length_map] at k8
    obtain ⟨y, r, hyr⟩ : ∃ y r, x5.2.1 = y :: r := by (cases hl : x5.2.1 with | nil => (rw [hl] at k8; simp at k8) | cons y r => exact ⟨y, r, rfl⟩)
    have hsz := ok5.2
    rw [hyr, sizeL_cons] at hsz
    rw [hyr, List.map_cons, ← List.nil_append (TWrite.cs y :: r.map TWrite.cs)]
    refine awp_seq ?_
    refine awp_region ?_
    refine sq_plain rfl rfl rfl (w_move rfl (ev_tmp rfl)) ?_
    refine sq_callG [0] rfl rfl rfl rfl Try.call131 rfl (curPick_own _ _ hcode _ _ (by omega) (by omega)) (evl_cons (ev_tmp rfl) (evl_cons ev_ci evl_nil)) rfl ?_
    intro x10 ok10
    refine sq_nil ?_
    refine awp_block ?_
    refine awp_seq ?_
    refine awp_region ?_
    refine sq_plain rfl rfl rfl (w_eql rfl (ev_tmp rfl) ev_ci) ?_
    refine sq_plain rfl rfl rfl (w_assign rfl (ev_tmp rfl)) ?_
    refine sq_nil ?_
    refine awp_cond (ev_tmp rfl) ?_ ?_
    · intro h11
      have k11 := eq_of_beqt h11; try simp only [List.length_map] at k11
      refine awp_region ?_
      refine sq_plain rfl rfl rfl (w_move rfl (ev_tmp rfl)) ?_
      refine sq_plain rfl rfl rfl (w_move rfl (ev_tmp rfl)) ?_
      refine sq_plain rfl rfl rfl (w_bslice rfl Try.underlying29 Try.sizeOf9 Try.zeroValue9 rfl rfl rfl rfl (bp_cons (ev_cs' (l := []) rfl) (as_str _) (bp_cons (ev_cs' (l := [65]) rfl) (as_str _) (bp_cons (ev_cs' (l := [122]) rfl) (as_str _) (bp_cons (ev_cs' (l := [116, 111, 111, 108, 111, 110, 103, 97, 107, 101, 121, 48, 48]) rfl) (as_str _) bp_nil)))) rfl rfl) ?_
      refine sq_callG [0] rfl rfl rfl rfl Try.call113 rfl (curOf_own _ _ hcode _ ([[], [65], [122], [116, 111, 111, 108, 111, 110, 103, 97, 107, 101, 121, 48, 48]] : List Str) (by decide) (by omega)) (evl_cons (ev_tmp rfl) (evl_cons (ev_tmp rfl) evl_nil)) rfl ?_
      intro x16 ok16
      refine sq_plain rfl rfl rfl (w_aidx 1 rfl Try.underlying60 Try.sizeOf65 (ev_tmp rfl) rfl ev_ci (by decide) (by rw [List.length_append, List.length_cons]; omega)) ?_
      refine sq_plain rfl rfl rfl (w_fldX 1 rfl Try.underlying65 rfl Try.sizeOf9 (ev_tmp rfl) rfl rfl (app_get rfl)) ?_
      refine sq_storeXA 1 rfl rfl rfl (ev_tmp rfl) (ev_tmp rfl) (as_str _) rfl Try.sizeOf9 rfl rfl ?_
      refine sq_nil ?_
      refine awp_seq ?_
      refine awp_region ?_
      refine sq_plain rfl rfl rfl (w_move rfl (ev_tmp rfl)) ?_
      refine sq_plain rfl rfl rfl (w_assign rfl (ev_tmp rfl)) ?_
      refine sq_nil ?_
      refine awp_ret ?_
      (refine retG [0, 0] ((x16.1, ⟨x16.2, y.Val, y.Gone⟩ :: r, x5.2.2)) ?_ rfl (by first | (dsimp only; rfl) | rfl) (resR rfl (rv_tmp' rfl (by rfl))); (dsimp only; first | exact ⟨by omega, by omega⟩ | exact ⟨by omega, by rw [sizeL_cons]; simp only [TWrite.size] at hsz ⊢; omega⟩))
    · intro h11
      have k11 := ne_of_beqf h11; try simp only [List.length_map] at k11
      refine awp_seq ?_
      refine awp_region ?_
      refine sq_plain rfl rfl rfl (w_eql rfl (ev_tmp rfl) ev_ci) ?_
      refine sq_plain rfl rfl rfl (w_assign rfl (ev_tmp rfl)) ?_
      refine sq_nil ?_
      refine awp_cond (ev_tmp rfl) ?_ ?_
      · intro h19
        have k19 := eq_of_beqt h19; try simp only [List.length_map] at k19
        refine awp_region ?_
        refine sq_plain rfl rfl rfl (w_move rfl (ev_tmp rfl)) ?_
        refine sq_plain rfl rfl rfl (w_move rfl (ev_tmp rfl)) ?_
        refine sq_plain rfl rfl rfl (w_bslice rfl Try.underlying29 Try.sizeOf9 Try.zeroValue9 rfl rfl rfl rfl (bp_cons (ev_cs' (l := [32]) rfl) (as_str _) (bp_cons (ev_cs' (l := [48, 49, 50, 51, 52, 53, 54, 55, 56, 57, 48, 49, 50, 51, 52, 53, 54, 55, 56, 57, 48, 49, 50, 51, 52]) rfl) (as_str _) bp_nil)) rfl rfl) ?_
        refine sq_callG [0] rfl rfl rfl rfl Try.call113 rfl (curOf_own _ _ hcode _ ([[32], [48, 49, 50, 51, 52, 53, 54, 55, 56, 57, 48, 49, 50, 51, 52, 53, 54, 55, 56, 57, 48, 49, 50, 51, 52]] : List Str) (by decide) (by omega)) (evl_cons (ev_tmp rfl) (evl_cons (ev_tmp rfl) evl_nil)) rfl ?_
        intro x24 ok24
        refine sq_plain rfl rfl rfl (w_aidx 1 rfl Try.underlying60 Try.sizeOf65 (ev_tmp rfl) rfl ev_ci (by decide) (by rw [List.length_append, List.length_cons]; omega)) ?_
        refine sq_plain rfl rfl rfl (w_fldX 1 rfl Try.underlying65 rfl Try.sizeOf9 (ev_tmp rfl) rfl rfl (app_get rfl)) ?_
        refine sq_storeXA 1 rfl rfl rfl (ev_tmp rfl) (ev_tmp rfl) (as_str _) rfl Try.sizeOf9 rfl rfl ?_
        refine sq_nil ?_
        refine awp_seq ?_
        refine awp_region ?_
        refine sq_plain rfl rfl rfl (w_move rfl (ev_tmp rfl)) ?_
        refine sq_plain rfl rfl rfl (w_assign rfl (ev_tmp rfl)) ?_
        refine sq_nil ?_
        refine awp_ret ?_
        (refine retG [0, 0] ((x24.1, ⟨y.Key, x24.2, y.Gone⟩ :: r, x5.2.2)) ?_ rfl (by first | (dsimp only; rfl) | rfl) (resR rfl (rv_tmp' rfl (by rfl))); (dsimp only; first | exact ⟨by omega, by omega⟩ | exact ⟨by omega, by rw [sizeL_cons]; simp only [TWrite.size] at hsz ⊢; omega⟩))
      · intro h19
        have k19 := ne_of_beqf h19; try simp only [List.length_map] at k19
        refine awp_seq ?_
        refine awp_region ?_
        refine sq_plain rfl rfl rfl (w_eql rfl (ev_tmp rfl) ev_ci) ?_
        refine sq_plain rfl rfl rfl (w_assign rfl (ev_tmp rfl)) ?_
        refine sq_nil ?_
        refine awp_cond (ev_tmp rfl) ?_ ?_
        · intro h27
          have k27 := eq_of_beqt h27; try simp only [List.length_map] at k27
          refine awp_region ?_
          refine sq_plain rfl rfl rfl (w_move rfl (ev_tmp rfl)) ?_
          refine sq_plain rfl rfl rfl (w_move rfl (ev_tmp rfl)) ?_
          refine sq_plain rfl rfl rfl (w_aidx 1 rfl Try.underlying60 Try.sizeOf65 (ev_tmp rfl) rfl ev_ci (by decide) (by rw [List.length_append, List.length_cons]; omega)) ?_
          refine sq_plain rfl rfl rfl (w_fldX 1 rfl Try.underlying65 rfl Try.sizeOf4 (ev_tmp rfl) rfl rfl (app_get rfl)) ?_
          refine sq_plain rfl rfl rfl (w_loadXf 1 rfl (ev_tmp rfl) rfl Try.isAgg4 (app_get rfl) rfl) ?_
          refine sq_plain rfl rfl rfl (w_not rfl (ev_tmp rfl)) ?_
          refine sq_plain rfl rfl rfl (w_aidx 1 rfl Try.underlying60 Try.sizeOf65 (ev_tmp rfl) rfl ev_ci (by decide) (by rw [List.length_append, List.length_cons]; omega)) ?_
          refine sq_plain rfl rfl rfl (w_fldX 1 rfl Try.underlying65 rfl Try.sizeOf4 (ev_tmp rfl) rfl rfl (app_get rfl)) ?_
          refine sq_storeXA 1 rfl rfl rfl (ev_tmp rfl) (ev_tmp rfl) (as_bool _) rfl Try.sizeOf4 rfl rfl ?_
          refine sq_nil ?_
          refine awp_seq ?_
          refine awp_region ?_
          refine sq_plain rfl rfl rfl (w_move rfl (ev_tmp rfl)) ?_
          refine sq_plain rfl rfl rfl (w_assign rfl (ev_tmp rfl)) ?_
          refine sq_nil ?_
          refine awp_ret ?_
          (refine retG [0, 0] ((x10.1, ⟨y.Key, y.Val, !y.Gone⟩ :: r, x5.2.2)) ?_ rfl (by first | (dsimp only; rfl) | rfl) (resR rfl (rv_tmp' rfl (by rfl))); (dsimp only; first | exact ⟨by omega, by omega⟩ | exact ⟨by omega, by rw [sizeL_cons]; simp only [TWrite.size] at hsz ⊢; omega⟩))
        · intro h27
          have k27 := ne_of_beqf h27; try simp only [List.length_map] at k27
          refine awp_skip ?_
          refine awp_seq ?_
          refine awp_region ?_
          refine sq_plain rfl rfl rfl (w_move rfl (ev_tmp rfl)) ?_
          refine sq_plain rfl rfl rfl (w_assign rfl (ev_tmp rfl)) ?_
          refine sq_nil ?_
          refine awp_ret ?_
          (refine retG [0, 0] ((x10.1, y :: r, x5.2.2)) ?_ rfl (by first | (dsimp only; rfl) | rfl) (resR rfl (rv_tmp' rfl (by rfl))); (dsimp only; first | exact ⟨by omega, by omega⟩ | exact ⟨by omega, by rw [sizeL_cons]; simp only [TWrite.size] at hsz ⊢; omega⟩))
  · intro h8
    have k8 := of_decide_eq_false h8; try simp only [List.length_map] at k8
    refine awp_skip ?_
    refine awp_seq ?_
    refine awp_region ?_
    refine sq_plain rfl rfl rfl (w_move rfl (ev_tmp rfl)) ?_
    refine sq_plain rfl rfl rfl (w_assign rfl (ev_tmp rfl)) ?_
    refine sq_nil ?_
    refine awp_ret ?_
    (refine retG [0, 0] ((x5.1, x5.2.1, x5.2.2)) ?_ rfl (by first | (dsimp only; rfl) | rfl) (resR rfl (rv_tmp' rfl (by rfl))); (dsimp only; first | exact ⟨by omega, by omega⟩ | exact ⟨by omega, by rw [sizeL_cons]; simp only [TWrite.size] at hsz ⊢; omega⟩))
theorem putP_good {q : List TCell} {w : List TWrite} {t : Int} (h : (putP q w t).2 = true) : goodCells (putP q w t).1 = true := by
  unfold putP at *
  cases hp : putAll q w t with
  | none => rw [hp] at h; cases h
  | some o => rw [hp] at h; simp only at h ⊢; rw [goodCells_eq]; exact h
theorem curCells_own (b : Nat) (code : List Int) (hcode : ByteL code) (c : TCur) (hp : c.p ≤ 2000000) : GSpec Try.prog 235 [AV.ptr b 0] [.box b 123 (curC code c)] (fun x : TCur × List TCell × Value × List Value => x.1.p ≤ c.p + 320 ∧ goodCells x.2.1 = true ∧ x.2.2.2.length = x.2.1.length) (fun x => .box b 123 (curC code x.1) :: .arr x.2.2.1 153 2 (nrows TCell.ocs x.2.1 x.2.2.2) :: nin TCell.ow x.2.1 x.2.2.2) (fun x => AV.is x.2.2.1) := by
  refine gspec_of_awp Try.func235 rfl Try.ntmps235 rfl ?_
  refine awp_seq ?_
  refine awp_region ?_
  refine sq_plain rfl rfl rfl (w_assign rfl ev_cnils) ?_
  refine sq_nil ?_
  refine awp_seq ?_
  refine awp_region ?_
  refine sq_nilarr 153 2 rfl rfl rfl rfl ev_cnils ?_
  intro v3
  refine sq_nil ?_
  refine awp_seq ?_
  refine awp_region ?_
  refine sq_plain rfl rfl rfl (w_assign rfl ev_ci) ?_
  refine sq_nil ?_
  refine awp_seq ?_
  refine awp_seq ?_
  refine awp_region ?_
  refine sq_plain rfl rfl rfl (w_move rfl (ev_tmp rfl)) ?_
  refine sq_callG [1] rfl rfl rfl rfl Try.call131 rfl (curPick_own _ _ hcode _ _ (by omega) (by omega)) (evl_cons (ev_tmp rfl) (evl_cons ev_ci evl_nil)) rfl ?_
  intro x9 ok9
  refine sq_plain rfl rfl rfl (w_assign rfl (ev_tmp rfl)) ?_
  refine sq_nil ?_
  refine awp_block ?_
  refine AWP.le (le_pick [0, 0] rfl) ?_
  refine awp_loop_i4 [(0, _), (2, _)] [] (fun (n : Int) (t : Int) (cc : TCur) (z : List TCell × Value × List Value) => (0 ≤ n ∧ n ≤ 6) ∧ (0 ≤ t ∧ t + 5 * n ≤ 40) ∧ cc.p + 50 * n ≤ c.p + 310 ∧ goodCells z.1 = true ∧ z.2.2.length = z.1.length) (fun (n : Int) (t : Int) (cc : TCur) (z : List TCell × Value × List Value) => [.box b 123 (curC code cc), .arr z.2.1 153 2 (nrows TCell.ocs z.1 z.2.2)] ++ (nin TCell.ow z.1 z.2.2)) (fun (n : Int) (t : Int) (cc : TCur) (z : List TCell × Value × List Value) => [(3, AV.is z.2.1), (4, AV.int t), (5, AV.int n)]) (fun (n : Int) (t : Int) (cc : TCur) (z : List TCell × Value × List Value) => n.toNat) (x9.2) (0) (x9.1) (([], v3, [])) ?_ (le_eq (by rfl) ⟨rfl, rfl, rfl, rfl, rfl, trivial⟩) ?_
  · exact ⟨by omega, by omega, by omega, rfl, rfl⟩
  intro n t cc z hinv
  have hlen := hinv.2.2.2.2
  have hqs := good_size hinv.2.2.2.1
  have hok := cellsOk_good hinv.2.2.2.1
  refine awp_own (List.append_nil _) ?_
  refine awp_seq ?_
  refine awp_seq ?_
  refine awp_region ?_
  refine sq_plain rfl rfl rfl (w_move rfl (ev_tmp rfl)) ?_
  refine sq_plain rfl rfl rfl (w_gtr rfl (ev_tmp rfl) ev_ci) ?_
  refine sq_nil ?_
  refine awp_cond (ev_tmp rfl) ?_ ?_
  · intro h11
    have k11 := of_decide_eq_true h11; try simp only [List.length_map] at k11
    refine awp_skip ?_
    refine awp_seq ?_
    refine awp_block ?_
    refine awp_seq ?_
    refine awp_region ?_
    refine sq_plain rfl rfl rfl (w_move rfl (ev_tmp rfl)) ?_
    refine sq_plain rfl rfl rfl (w_move rfl (ev_tmp rfl)) ?_
    refine sq_callG [0] rfl rfl rfl rfl Try.call131 rfl (curPick_own _ _ hcode _ _ (by omega) (by omega)) (evl_cons (ev_tmp rfl) (evl_cons ev_ci evl_nil)) rfl ?_
    intro x16 ok16
    refine sq_plain rfl rfl rfl (w_addi rfl ev_ci (ev_tmp rfl) (by first | omega | ((try simp only [List.length_map, List.length_take, List.length_cons, List.length_nil, chunks_len, szR] at *); omega) | (have hc2 := hc; simp only [Bool.and_eq_true, Bool.or_eq_true, Bool.or_eq_false_iff, Bool.and_eq_false_iff, Bool.not_eq_true', Bool.not_eq_false', decide_eq_true_eq, decide_eq_false_iff_not, beq_iff_eq, bne_iff_ne, List.length_map, List.length_take] at hc2; omega))) ?_
    refine sq_plain rfl rfl rfl (w_addi rfl (ev_tmp rfl) (ev_tmp rfl) (by first | omega | ((try simp only [List.length_map, List.length_take, List.length_cons, List.length_nil, chunks_len, szR] at *); omega) | (have hc2 := hc; simp only [Bool.and_eq_true, Bool.or_eq_true, Bool.or_eq_false_iff, Bool.and_eq_false_iff, Bool.not_eq_true', Bool.not_eq_false', decide_eq_true_eq, decide_eq_false_iff_not, beq_iff_eq, bne_iff_ne, List.length_map, List.length_take] at hc2; omega))) ?_
    refine sq_plain rfl rfl rfl (w_assign rfl (ev_tmp rfl)) ?_
    refine sq_nil ?_
    refine awp_seq ?_
    refine awp_region ?_
    refine sq_plain rfl rfl rfl (w_move rfl (ev_tmp rfl)) ?_
    refine sq_plain rfl rfl rfl (w_move rfl (ev_tmp rfl)) ?_
    refine sq_callG [0] rfl rfl rfl rfl Try.call240 rfl (curWrites_own _ _ hcode _ (by omega)) (evl_cons (ev_tmp rfl) evl_nil) rfl ?_
    intro x22 ok22
    refine sq_plain rfl rfl rfl (w_move rfl (ev_tmp rfl)) ?_
    refine sq_callGB [] rfl rfl rfl rfl Try.call159 rfl (l3Put_own z.1 x22.2.1 (t + (1 + x16.2)) hok (by omega) (by omega) (by omega)) rfl (evlb_cons (evb_lt (ev_tmp rfl) (nin_lend TCell.lcM (by first | exact hlen | exact hlen.trans (marksN_len _ _).symm) 2 rfl (fun o ho => List.mem_of_mem_drop (i := 3) (show o ∈ nin TCell.ow z.1 z.2.2 from by first | exact ho | exact List.mem_append_left _ ho | exact List.mem_append_right _ ho | exact List.mem_append_right _ (List.mem_append_left _ ho) | exact List.mem_append_right _ (List.mem_append_right _ ho))))) (evlb_cons (evb_arr 1 (ev_tmp rfl) rfl) (evlb_cons (evb (ev_tmp rfl)) evlb_nil))) (by first | exact flatO_nil | (intro _; exact flatO_nil) | (intro _; first | exact flat_is _ | exact flat_ik _ _ | exact flat_bool _ | exact flat_str _ | exact flat_nils) | (intro _; refine flat_tup ?_; (repeat (first | exact flatl_nil | (refine flatl_cons (by first | (first | exact flat_is _ | exact flat_ik _ _ | exact flat_bool _ | exact flat_str _ | exact flat_nils) | (refine flat_agg ?_; (repeat (first | exact flatl_nil | (refine flatl_cons (by first | exact flat_is _ | exact flat_ik _ _ | exact flat_bool _ | exact flat_str _ | exact flat_nils) ?_))))) ?_))); done) | (intro _; refine flat_agg ?_; (repeat (first | exact flatl_nil | (refine flatl_cons (by first | exact flat_is _ | exact flat_ik _ _ | exact flat_bool _ | exact flat_str _ | exact flat_nils) ?_))); done) | ((repeat (first | exact flatO_nil | (refine flatO_cons (flatO_box ?_) ?_; (repeat (first | exact flatl_nil | (refine flatl_cons (by first | exact flat_is _ | exact flat_ik _ _ | exact flat_bool _ | exact flat_str _ | exact flat_nils) ?_)))) | (refine flatO_cons (flatO_arr ?_) ?_; (repeat (first | exact flate_nil | (refine flate_map (fun _ => ?_); (first | exact TWrite.flat _ | exact TFeedItem.flat _ | exact TIdx.flat _ | exact TVer.flat _ | (repeat (first | exact flatl_nil | (refine flatl_cons (by first | exact flat_is _ | exact flat_ik _ _ | exact flat_bool _ | exact flat_str _ | exact flat_nils) ?_))))) | (refine flate_rep ?_; (first | exact TWrite.flat _ | exact TFeedItem.flat _ | exact TIdx.flat _ | exact TVer.flat _ | (repeat (first | exact flatl_nil | (refine flatl_cons (by first | exact flat_is _ | exact flat_ik _ _ | exact flat_bool _ | exact flat_str _ | exact flat_nils) ?_))))) | (refine flate_cons ?_ ?_; (first | exact TWrite.flat _ | exact TFeedItem.flat _ | exact TIdx.flat _ | exact TVer.flat _ | (repeat (first | exact flatl_nil | (refine flatl_cons (by first | exact flat_is _ | exact flat_ik _ _ | exact flat_bool _ | exact flat_str _ | exact flat_nils) ?_))))) | refine flate_app ?_ ?_))))); done) | (intro _; (repeat (first | exact flatO_nil | (refine flatO_cons (flatO_box ?_) ?_; (repeat (first | exact flatl_nil | (refine flatl_cons (by first | exact flat_is _ | exact flat_ik _ _ | exact flat_bool _ | exact flat_str _ | exact flat_nils) ?_)))) | (refine flatO_cons (flatO_arr ?_) ?_; (repeat (first | exact flate_nil | (refine flate_map (fun _ => ?_); (first | exact TWrite.flat _ | exact TFeedItem.flat _ | exact TIdx.flat _ | exact TVer.flat _ | (repeat (first | exact flatl_nil | (refine flatl_cons (by first | exact flat_is _ | exact flat_ik _ _ | exact flat_bool _ | exact flat_str _ | exact flat_nils) ?_))))) | (refine flate_rep ?_; (first | exact TWrite.flat _ | exact TFeedItem.flat _ | exact TIdx.flat _ | exact TVer.flat _ | (repeat (first | exact flatl_nil | (refine flatl_cons (by first | exact flat_is _ | exact flat_ik _ _ | exact flat_bool _ | exact flat_str _ | exact flat_nils) ?_))))) | (refine flate_cons ?_ ?_; (first | exact TWrite.flat _ | exact TFeedItem.flat _ | exact TIdx.flat _ | exact TVer.flat _ | (repeat (first | exact flatl_nil | (refine flatl_cons (by first | exact flat_is _ | exact flat_ik _ _ | exact flat_bool _ | exact flat_str _ | exact flat_nils) ?_))))) | refine flate_app ?_ ?_))))); done)) (fun x => flat_tup (flatC_cons (flat_is _) (flatC_cons (flat_bool _) flatC_nil))) (fun x => flatO_cons (flatO_arr (nrows_flat TCell.flatC _ _)) (nin_flat TCell.flatW _ _)) ?_
    intro x24 ok24
    refine sq_le (le_mid (NT := nin TCell.ow (putP z.1 x22.2.1 (t + (1 + x16.2))).1 x24.2 ++ (nin TCell.ow z.1 z.2.2)) 1 3 (List.Perm.refl _)) ?_
    refine sq_plain rfl rfl rfl (w_move rfl (ev_tmp rfl)) ?_
    refine sq_plain rfl rfl rfl (w_extract rfl (ev_tmp rfl) rfl) ?_
    refine sq_plain rfl rfl rfl (w_extract rfl (ev_tmp rfl) rfl) ?_
    refine sq_plain rfl rfl rfl (w_assign rfl (ev_tmp rfl)) ?_
    refine sq_plain rfl rfl rfl (w_assign rfl (ev_tmp rfl)) ?_
    refine sq_nil ?_
    refine awp_seq ?_
    refine awp_region ?_
    refine sq_plain rfl rfl rfl (w_move rfl (ev_tmp rfl)) ?_
    refine sq_nil ?_
    refine awp_cond (ev_tmp rfl) ?_ ?_
    · intro h27
      refine AWP.le (le_cut 4 (t := nin TCell.ow (putP z.1 x22.2.1 (t + (1 + x16.2))).1 x24.2) (r := nin TCell.ow z.1 z.2.2) (List.Perm.refl _)) ?_
      refine awp_region ?_
      refine sq_plain rfl rfl rfl (w_move rfl (ev_tmp rfl)) ?_
      refine sq_plain rfl rfl rfl (w_assign rfl (ev_tmp rfl)) ?_
      refine sq_nil ?_
      refine awp_region ?_
      refine sq_plain rfl rfl rfl (w_move rfl (ev_tmp rfl)) ?_
      refine sq_plain rfl rfl rfl (w_subi rfl (ev_tmp rfl) ev_ci (by first | omega | ((try simp only [List.length_map, List.length_take, List.length_cons, List.length_nil, chunks_len, szR] at *); omega) | (have hc2 := hc; simp only [Bool.and_eq_true, Bool.or_eq_true, Bool.or_eq_false_iff, Bool.and_eq_false_iff, Bool.not_eq_true', Bool.not_eq_false', decide_eq_true_eq, decide_eq_false_iff_not, beq_iff_eq, bne_iff_ne, List.length_map, List.length_take] at hc2; omega))) ?_
      refine sq_plain rfl rfl rfl (w_assign rfl (ev_tmp rfl)) ?_
      refine sq_nil ?_
      refine round_end4 n t cc z (n - 1) (t + (1 + x16.2)) (x22.1) (((putP z.1 x22.2.1 (t + (1 + x16.2))).1, x24.1, x24.2)) ?_ ?_ (Le.trans (le_pick [2, 2, 1, 0] rfl) (le_dropeq 2 (Eq.trans (by rfl) (List.append_nil _).symm) ⟨rfl, rfl, rfl, rfl, rfl, trivial⟩))
      · exact ⟨by omega, by omega, by omega, putP_good h27, ok24⟩
      · omega
    · intro h27
      refine AWP.le (le_cut 4 (t := nin TCell.ow z.1 z.2.2) (r := nin TCell.ow (putP z.1 x22.2.1 (t + (1 + x16.2))).1 x24.2) (show List.Perm ((nin TCell.ow (putP z.1 x22.2.1 (t + (1 + x16.2))).1 x24.2) ++ (nin TCell.ow z.1 z.2.2)) ((nin TCell.ow z.1 z.2.2) ++ (nin TCell.ow (putP z.1 x22.2.1 (t + (1 + x16.2))).1 x24.2)) from List.perm_append_comm)) ?_
      refine awp_skip ?_
      refine awp_region ?_
      refine sq_plain rfl rfl rfl (w_move rfl (ev_tmp rfl)) ?_
      refine sq_plain rfl rfl rfl (w_subi rfl (ev_tmp rfl) ev_ci (by first | omega | ((try simp only [List.length_map, List.length_take, List.length_cons, List.length_nil, chunks_len, szR] at *); omega) | (have hc2 := hc; simp only [Bool.and_eq_true, Bool.or_eq_true, Bool.or_eq_false_iff, Bool.and_eq_false_iff, Bool.not_eq_true', Bool.not_eq_false', decide_eq_true_eq, decide_eq_false_iff_not, beq_iff_eq, bne_iff_ne, List.length_map, List.length_take] at hc2; omega))) ?_
      refine sq_plain rfl rfl rfl (w_assign rfl (ev_tmp rfl)) ?_
      refine sq_nil ?_
      refine round_end4 n t cc z (n - 1) (t + (1 + x16.2)) (x22.1) (z) ?_ ?_ (Le.trans (le_pick [0, 1, 0, 0] rfl) (le_dropeq 2 (Eq.trans (by rfl) (List.append_nil _).symm) ⟨rfl, rfl, rfl, rfl, rfl, trivial⟩))
      · exact ⟨by omega, by omega, by omega, hinv.2.2.2.1, hlen⟩
      · omega
  · intro h11
    have k11 := of_decide_eq_false h11; try simp only [List.length_map] at k11
    refine awp_exit ?_
    refine awp_seq ?_
    refine awp_region ?_
    refine sq_plain rfl rfl rfl (w_move rfl (ev_tmp rfl)) ?_
    refine sq_plain rfl rfl rfl (w_assign rfl (ev_tmp rfl)) ?_
    refine sq_nil ?_
    refine awp_ret ?_
    exact retGT [0, 0] 0 (nin TCell.ow z.1 z.2.2) [] ((cc, z)) (⟨show cc.p ≤ _ by omega, hinv.2.2.2⟩) rfl (show List.Perm (nin TCell.ow z.1 z.2.2) ((nin TCell.ow z.1 z.2.2) ++ []) from perm_nil) (by rfl) (resR rfl (rv_tmp' rfl (by rfl)))
end Go.Proofs.Yteliahajeokciaa

set_option linter.unusedVariables false
set_option linter.unusedSimpArgs false
namespace Go.AV
section
variable {P : Program} {G : Nat → Prop} {n : Nat} {own : List Own} {o : Oper}
/-- An owned thing beside the same one whose inner memory (sel) is lent. -/
def OwnC (sel : List Own) : Own → Own → Prop
  | .box b t cs, .box b' t' cs' => b = b' ∧ t = t' ∧ LendC sel cs cs'
  | .arr v t sz es, .arr v' t' sz' es' => v = v' ∧ t = t' ∧ sz = sz' ∧ LendE sel es es'
  | _, _ => False
def OwnsC (sel own own' : List Own) : Prop := own.length = own'.length ∧ ∀ (i : Nat) (q q' : Own), own[i]? = some q → own'[i]? = some q' → OwnC sel q q'
theorem oc_nil {sel : List Own} : OwnsC sel [] [] := ⟨rfl, fun i q q' h => by simp at h⟩
theorem oc_cons {sel a b : List Own} {q q' : Own} (h : OwnC sel q q') (k : OwnsC sel a b) : OwnsC sel (q :: a) (q' :: b) := ⟨by simp [k.1], fun i x y hx hy => by
  cases i with
  | zero => simp at hx hy; subst hx; subst hy; exact h
  | succ i => exact k.2 i x y (by simpa using hx) (by simpa using hy)⟩
theorem oc_blk {sel : List Own} {q q' : Own} (h : OwnC sel q q') : Own.blk q = Own.blk q' := by
  cases q <;> cases q' <;> unfold OwnC at h
  · exact congrArg some h.1
  · exact h.elim
  · exact h.elim
  · exact congrArg Value.ownBlock h.1
theorem oc_map {sel a b : List Own} (h : OwnsC sel a b) : a.map Own.blk = b.map Own.blk := by
  refine List.ext_getElem? fun i => ?_
  rw [List.getElem?_map, List.getElem?_map]
  cases ha : a[i]? with
  | none =>
    have : b[i]? = none := by rw [List.getElem?_eq_none_iff] at ha ⊢; rw [← h.1]; exact ha
    rw [this]
  | some q =>
    have hi : i < b.length := by rw [← h.1]; exact (List.getElem?_eq_some_iff.1 ha).1
    rw [List.getElem?_eq_getElem hi]
    exact congrArg some (oc_blk (h.2 i q _ ha (List.getElem?_eq_getElem hi)))
theorem oc_fm {sel a b : List Own} (h : OwnsC sel a b) : a.filterMap Own.blk = b.filterMap Own.blk := by
  have := congrArg (List.filterMap id) (oc_map h)
  rwa [List.filterMap_map, List.filterMap_map] at this
theorem denC_lend {sel : List Own} {xs ys : List AV} {w0 : World} {R0 R : RHeap} {w : World} {vs : List Value} (hc : Core G w0 R0 sel R w) (h : DenC R vs xs) (k : LendC sel xs ys) : DenC (lend sel w R) vs ys :=
  ⟨h.1.trans k.1, fun i v y hv hy => by
    have hi : i < xs.length := by rw [k.1]; exact (List.getElem?_eq_some_iff.1 hy).1
    have hx := List.getElem?_eq_getElem hi
    obtain ⟨h1, h2⟩ := h.2 i v _ hv hx
    exact ⟨k.2 i _ y hx hy G w0 R0 R w v hc h1, h2⟩⟩
theorem core_sealC {sel rest rest' : List Own} {w0 : World} {R0 R : RHeap} {w : World} (h : Core G w0 R0 (sel ++ rest) R w) (hG : ∀ b, G b → b ∈ rest.filterMap Own.blk) (hl : OwnsC sel rest rest') : Core G w0 R0 rest' (lend sel w R) w := by
  have hb := core_sealD h hG
  have hs := core_left h
  refine ⟨hb.os, hb.tape, hb.output, hb.size, hb.block, hb.rle, hb.rold, fun q' hq' => ?_, fun q' hq' b hqb => ?_, ?_⟩
  · obtain ⟨i, hi⟩ := List.getElem?_of_mem hq'
    have hir : i < rest.length := by rw [hl.1]; exact (List.getElem?_eq_some_iff.1 hi).1
    have hr := List.getElem?_eq_getElem hir
    have hm := List.mem_of_getElem? hr
    have hoc := hl.2 i _ q' hr hi
    have k1 := hb.owned _ hm
    have k2 := h.owned _ (List.mem_append_right _ hm)
    revert hoc k1 k2
    generalize rest[i] = q
    intro hoc k1 k2
    cases q <;> cases q' <;> unfold OwnC at hoc
    · obtain ⟨rfl, rfl, hc⟩ := hoc
      obtain ⟨_, vs, hv, hd⟩ := k2
      exact ⟨k1.1, vs, hv, denC_lend hs hd hc⟩
    · exact hoc.elim
    · exact hoc.elim
    · obtain ⟨rfl, rfl, rfl, hc⟩ := hoc
      obtain ⟨_, hlen, xs, hx, hd⟩ := k2
      refine ⟨k1.1, fun e he => ?_, xs, ?_, denC_lend hs hd (lc_flat hc)⟩
      · obtain ⟨j, hj⟩ := List.getElem?_of_mem he
        have hje := List.getElem?_eq_getElem (show j < _ from hc.1.symm ▸ (List.getElem?_eq_some_iff.1 hj).1)
        rw [← (hc.2 j _ e hje hj).1]
        exact hlen _ (List.mem_of_getElem? hje)
      · rw [← hc.1]; exact hx
  · have hm : (some b) ∈ rest'.map Own.blk := List.mem_map.2 ⟨q', hq', hqb⟩
    rw [← oc_map hl] at hm
    obtain ⟨q, hq, hqb2⟩ := List.mem_map.1 hm
    exact hb.fresh q hq b hqb2
  · rw [← oc_fm hl]; exact hb.sep
theorem gspec_sealC {α β : Type} {f : FuncId} {xs : List AV} {inw : List Own} {ok : α → Prop} {O : α → List Own} {V : α → AV} {ok' : β → Prop} {O' : β → List Own} {V' : β → AV} (g : α → β) (S rest : α → List Own) (hs : GSpec P f xs inw ok O V)
    (hok : ∀ a, ok a → ok' (g a)) (hV : ∀ a, ok a → LendTo (S a) (V a) (V' (g a))) (hp : ∀ a, ok a → (O a).Perm (S a ++ rest a)) (hG : ∀ a, ok a → ∀ b, blksOf inw b → b ∈ (rest a).filterMap Own.blk) (hl : ∀ a, ok a → OwnsC (S a) (rest a) (O' (g a))) : GSpec P f xs inw ok' O' V' := fun R w vs hr hd ho hn =>
  (hs R w vs hr hd ho hn).mono fun e w' ⟨a, v, R', h0, h1, h2, h3⟩ => by
    have hc := core_perm h3 (hp a h0)
    exact ⟨g a, v, lend (S a) w' R', hok a h0, h1, hV a h0 _ _ _ R' w' v (core_left hc) h2, core_sealC hc (hG a h0) (hl a h0)⟩
theorem oc_refl {sel : List Own} (q : Own) : OwnC sel q q := by
  cases q with
  | box b t cs => exact ⟨rfl, rfl, lc_refl⟩
  | arr v t sz es => exact ⟨rfl, rfl, rfl, le_refl_e⟩
theorem oc_set {sel l : List Own} {i : Nat} {q q' : Own} (hi : l[i]? = some q) (hc : OwnC sel q q') : OwnsC sel l (l.set i q') := ⟨by simp, fun j x y hx hy => by
  by_cases h : i = j
  · subst h
    rw [List.getElem?_set_self (List.getElem?_eq_some_iff.1 hi).1] at hy
    rw [hi] at hx
    injection hx with hx; injection hy with hy; subst hx; subst hy; exact hc
  · rw [List.getElem?_set_ne h, hx] at hy
    injection hy with hy; subst hy; exact oc_refl _⟩
/-- The block at the end of what is owned is sealed; one thing before it holds it. -/
theorem le_sealT {env : List (Nat × AV)} {q : Own} (k i : Nat) (q' : Own) (hi : (own.take k)[i]? = some q) (hc : OwnC (own.drop k) q q') (hG : ∀ b, G b → b ∈ (own.take k).filterMap Own.blk) : Le G n ⟨own, env⟩ ⟨(own.take k).set i q', env⟩ := fun w0 R0 R a w ⟨h1, h2, h3⟩ => by
  have hp : Core G w0 R0 (own.drop k ++ own.take k) R w := core_perm h1 (by conv => lhs; rw [← List.take_append_drop k own]
                                                                            exact List.perm_append_comm)
  exact ⟨lend (own.drop k) w R, lend_sub (core_left hp), core_sealC hp hG (oc_set hi hc), fun t z hz => z.mono (lend_sub (core_left hp)) (h2 t z hz), h3⟩
theorem le_sealO {env : List (Nat × AV)} {sel rest : List Own} {q : Own} (is : List Nat) (i : Nat) (q' : Own) (hp : pick own is = (sel, rest)) (hi : rest[i]? = some q) (hc : OwnC sel q q') (hG : ∀ b, G b → b ∈ rest.filterMap Own.blk) : Le G n ⟨own, env⟩ ⟨rest.set i q', env⟩ := fun w0 R0 R a w ⟨h1, h2, h3⟩ => by
  have hk := core_pick h1 hp
  exact ⟨lend sel w R, lend_sub (core_left hk), core_sealC hk hG (oc_set hi hc), fun t z hz => z.mono (lend_sub (core_left hk)) (h2 t z hz), h3⟩
section
variable {T X : Type} {ocs : T → X → List AV} {cs : T → List AV} {ow : T → X → List Own}
theorem nin_lendE {own : List Own} {l : List T} {xs : List X} (hlc : ∀ p x, (∀ o ∈ ow p x, o ∈ own) → LendC own (ocs p x) (cs p)) (hlen : xs.length = l.length) (hm : ∀ o ∈ nin ow l xs, o ∈ own) : LendE own (nrows ocs l xs) (l.map cs) := by
  refine ⟨by rw [nrows_len hlen, List.length_map], fun j a b ha hb => ?_⟩
  rw [List.getElem?_map] at hb
  cases hp : l[j]? with
  | none => rw [hp] at hb; cases hb
  | some p =>
    rw [hp] at hb
    have hj := (List.getElem?_eq_some_iff.1 hp).1
    obtain ⟨x, hx⟩ : ∃ x, xs[j]? = some x := ⟨_, List.getElem?_eq_getElem (by omega)⟩
    rw [nrows_get hp hx] at ha
    injection ha with ha; injection hb with hb; subst ha; subst hb
    exact hlc p x fun o ho => hm o (nin_mem hp hx o ho)
end
end
end Go.AV

set_option linter.unusedVariables false
set_option linter.unusedSimpArgs false
set_option maxRecDepth 100000
set_option maxHeartbeats 1000000
namespace Go.Proofs.Yteliahajeokciaa
open Go Go.AV Go.M
attribute [local irreducible] OpW OpA OpS AWP FSpec ESpec GSpec OpE RetOk RetOkG RvDen Le Ev GuardIs SrcIs Int.tmod IntKind.wrap bandI
theorem lendE_put {own : List Go.AV.Own} {l : List TCell} {xs : List Value} {k : Nat} {c c2 : TCell} {y : Value} {r : List AV} (hl : xs.length = l.length) (hc : l[k]? = some c) (hy : xs[k]? = some y) (hm : ∀ o ∈ nin TCell.ow l xs, o ∈ own) (hr : LendC own r c2.cs) :
    LendE own (nrows TCell.ocs (l.take k) (xs.take k) ++ r :: nrows TCell.ocs (l.drop (k + 1)) (xs.drop (k + 1))) ((l.set k c2).map TCell.cs) := by
  have hk := (List.getElem?_eq_some_iff.1 hc).1
  have e : nrows TCell.ocs (l.take k) (xs.take k) ++ r :: nrows TCell.ocs (l.drop (k + 1)) (xs.drop (k + 1)) = (nrows TCell.ocs l xs).set k r := by
    rw [nrows_split hc hy, List.set_append_right _ _ (by rw [nrows_tlen hc hy]; omega), nrows_tlen hc hy, Nat.sub_self, List.set_cons_zero]
  rw [e]
  refine ⟨by rw [List.length_set, nrows_len hl, List.length_map, List.length_set], fun i a f ha hf => ?_⟩
  rw [List.getElem?_map] at hf
  by_cases hik : k = i
  · subst hik
    rw [List.getElem?_set_self (by rw [nrows_len hl]; exact hk)] at ha
    rw [List.getElem?_set_self hk] at hf
    injection ha with ha; injection hf with hf; subst ha; subst hf
    exact hr
  · rw [List.getElem?_set_ne hik] at ha
    rw [List.getElem?_set_ne hik] at hf
    cases hp : l[i]? with
    | none => rw [hp] at hf; cases hf
    | some p =>
      rw [hp] at hf
      have hi := (List.getElem?_eq_some_iff.1 hp).1
      obtain ⟨x, hx⟩ : ∃ x, xs[i]? = some x := ⟨_, List.getElem?_eq_getElem (by omega)⟩
      rw [nrows_get hp hx] at ha
      injection ha with ha; injection hf with hf; subst ha; subst hf
      exact TCell.lcM p x fun o ho => hm o (nin_mem hp hx o ho)
theorem sizeL_set {α : Type} {f : α → Nat} {x : α} : ∀ {l : List α} {k : Nat}, sizeL f (l.set k x) ≤ sizeL f l + f x
  | [], k => by simp [sizeL]
  | y :: l, 0 => by rw [List.set_cons_zero, sizeL_cons, sizeL_cons]; omega
  | y :: l, k + 1 => by
    have := sizeL_set (f := f) (x := x) (l := l) (k := k)
    rw [List.set_cons_succ, sizeL_cons, sizeL_cons]; omega
theorem curAnyCells_own (b : Nat) (code : List Int) (hcode : ByteL code) (c : TCur) (hp : c.p ≤ 1500000) : GSpec Try.prog 150 [AV.ptr b 0] [.box b 123 (curC code c)] (fun x : TCur × List TCell => x.1.p ≤ c.p + 340 ∧ sizeL TCell.size x.2 ≤ 30000) (fun x => [.box b 123 (curC code x.1)]) (fun x => AV.list 2 (x.2.map TCell.cs)) := by
  refine gspec_of_awp Try.func150 rfl Try.ntmps150 rfl ?_
  refine awp_seq ?_
  refine awp_region ?_
  refine sq_plain rfl rfl rfl (w_assign rfl ev_cnils) ?_
  refine sq_nil ?_
  refine awp_seq ?_
  refine awp_region ?_
  refine sq_plain rfl rfl rfl (w_move rfl (ev_tmp rfl)) ?_
  refine sq_callGT [0] 0 2 ([]) ([]) (fun zz => nin TCell.ow zz.2.1 zz.2.2.2) rfl rfl rfl rfl Try.call235 rfl rfl (show List.Perm ([]) (([]) ++ ([])) from List.Perm.refl _) (curCells_own _ _ hcode _ (by omega)) (evl_cons (ev_tmp rfl) evl_nil) (fun a => perm_lin) ?_
  intro x6 ok6
  obtain ⟨ok6a, ok6b, ok6c⟩ := ok6
  have hqs := good_size ok6b
  have hql := (goodCells_facts ok6b).1
  have hrl : (nrows TCell.ocs x6.2.1 x6.2.2.2).length = x6.2.1.length := nrows_len ok6c
  refine sq_plain rfl rfl rfl (w_assign rfl (ev_tmp rfl)) ?_
  refine sq_nil ?_
  refine awp_seq ?_
  refine awp_seq ?_
  refine awp_region ?_
  refine sq_plain rfl rfl rfl (w_move rfl (ev_tmp rfl)) ?_
  refine sq_plain rfl rfl rfl (w_alen 1 rfl Try.underlying53 (ev_tmp rfl) rfl) ?_
  refine sq_plain rfl rfl rfl (w_gtr rfl (ev_tmp rfl) ev_ci) ?_
  refine sq_nil ?_
  refine awp_cond (ev_tmp rfl) ?_ ?_
  · intro h9
    have k9 := of_decide_eq_true h9; try simp only [List.length_map] at k9
    refine awp_seq ?_
    refine awp_region ?_
    refine sq_plain rfl rfl rfl (w_move rfl (ev_tmp rfl)) ?_
    refine sq_plain rfl rfl rfl (w_move rfl (ev_tmp rfl)) ?_
    refine sq_plain rfl rfl rfl (w_alen 1 rfl Try.underlying53 (ev_tmp rfl) rfl) ?_
    refine sq_callG [0] rfl rfl rfl rfl Try.call131 rfl (curPick_own _ _ hcode _ _ (by rw [hrl]; omega) (by omega)) (evl_cons (ev_tmp rfl) (evl_cons (ev_tmp rfl) evl_nil)) rfl ?_
    intro x13 ok13
    obtain ⟨k, hk⟩ : ∃ k : Nat, x13.2 = k := ⟨x13.2.toNat, by omega⟩
    have hkl : k < x6.2.1.length := by rw [hrl] at ok13; omega
    obtain ⟨cc, hc⟩ := get_some hkl
    obtain ⟨y, hy⟩ := get_some (show k < x6.2.2.2.length by omega)
    have hcz := sizeL_get (f := TCell.size) hc
    rw [hk]
    have hA := nrows_tlen (ocs := TCell.ocs) hc hy
    refine sq_plain rfl rfl rfl (w_assign rfl (ev_tmp rfl)) ?_
    refine sq_nil ?_
    refine awp_seq ?_
    refine awp_region ?_
    refine sq_plain rfl rfl rfl (w_move rfl (ev_tmp rfl)) ?_
    refine sq_callG [0] rfl rfl rfl rfl Try.call131 rfl (curPick_own _ _ hcode _ _ (by omega) (by omega)) (evl_cons (ev_tmp rfl) (evl_cons ev_ci evl_nil)) rfl ?_
    intro x15 ok15
    refine sq_nil ?_
    refine awp_block ?_
    refine awp_seq ?_
    refine awp_region ?_
    refine sq_plain rfl rfl rfl (w_eql rfl (ev_tmp rfl) ev_ci) ?_
    refine sq_plain rfl rfl rfl (w_assign rfl (ev_tmp rfl)) ?_
    refine sq_nil ?_
    refine awp_cond (ev_tmp rfl) ?_ ?_
    · intro h16
      have k16 := eq_of_beqt h16; try simp only [List.length_map] at k16
      obtain ⟨l2, hl2⟩ : ∃ l2, x6.2.1.set k ⟨[97], cc.Vers⟩ = l2 := ⟨_, rfl⟩
      have hls : sizeL TCell.size l2 ≤ 30000 := by (have h9 := sizeL_set (f := TCell.size) (x := ⟨[97], cc.Vers⟩) (l := x6.2.1) (k := k); rw [hl2] at h9; have h8 : TCell.size ⟨[97], cc.Vers⟩ ≤ 1 + cc.size := by simp only [TCell.size, List.length_cons, List.length_nil]; omega); omega
      have hq : ∀ own : List Go.AV.Own, (∀ o ∈ nin TCell.ow x6.2.1 x6.2.2.2, o ∈ own) → LendE own (nrows TCell.ocs (x6.2.1.take k) (x6.2.2.2.take k) ++ [AV.str [97], AV.is y] :: nrows TCell.ocs (x6.2.1.drop (k + 1)) (x6.2.2.2.drop (k + 1))) (l2.map TCell.cs) := fun own hm => hl2 ▸ lendE_put ok6c hc hy hm (TCell.lcM ⟨[97], cc.Vers⟩ y fun o ho => hm o (nin_mem hc hy o ho))
      rw [nrows_split hc hy]
      refine awp_region ?_
      refine sq_plain rfl rfl rfl (w_move rfl (ev_tmp rfl)) ?_
      refine sq_plain rfl rfl rfl (w_move rfl (ev_tmp rfl)) ?_
      refine sq_plain rfl rfl rfl (w_aidx 1 rfl Try.underlying53 Try.sizeOf153 (ev_tmp rfl) rfl (ev_tmp rfl) (by omega) (by first | omega | (rw [List.length_append, List.length_cons]; omega))) ?_
      refine sq_plain rfl rfl rfl (w_fldX 1 rfl Try.underlying153 rfl Try.sizeOf9 (ev_tmp rfl) rfl rfl (app_get hA)) ?_
      refine sq_storeXA 1 rfl rfl rfl (ev_tmp rfl) (ev_cs' (l := [97]) rfl) (as_str _) rfl Try.sizeOf9 hA rfl ?_
      refine sq_nil ?_
      refine awp_seq ?_
      refine awp_region ?_
      refine sq_le (le_sealT 2 1 (.arr x6.2.2.1 153 2 (l2.map TCell.cs)) rfl (⟨rfl, rfl, rfl, hq _ (fun _ ho => ho)⟩) (gin_cons 0 rfl rfl gin_nil)) ?_
      refine sq_plain rfl rfl rfl (w_move rfl (ev_tmp rfl)) ?_
      refine sq_le (le_sealD [1] 40 rfl rfl (lt_arr (List.mem_of_getElem? (i := 0) rfl) le_refl_e) (gin_cons 0 rfl rfl gin_nil)) ?_
      refine sq_plain rfl rfl rfl (w_assign rfl (ev_tmp rfl)) ?_
      refine sq_nil ?_
      refine awp_ret ?_
      first | (refine retG [0] ((x6.1, l2)) ?_ rfl (by first | (dsimp only; rfl) | rfl) (resR rfl (rv_tmp' rfl (by rfl))); (dsimp only; exact ⟨by omega, hls⟩)) | (refine retG [0] ((x15.1, l2)) ?_ rfl (by first | (dsimp only; rfl) | rfl) (resR rfl (rv_tmp' rfl (by rfl))); (dsimp only; exact ⟨by omega, hls⟩)) | (refine retG [0] ((x31.1, l2)) ?_ rfl (by first | (dsimp only; rfl) | rfl) (resR rfl (rv_tmp' rfl (by rfl))); (dsimp only; exact ⟨by omega, hls⟩))
    · intro h16
      have k16 := ne_of_beqf h16; try simp only [List.length_map] at k16
      refine awp_seq ?_
      refine awp_region ?_
      refine sq_plain rfl rfl rfl (w_eql rfl (ev_tmp rfl) ev_ci) ?_
      refine sq_plain rfl rfl rfl (w_assign rfl (ev_tmp rfl)) ?_
      refine sq_nil ?_
      refine awp_cond (ev_tmp rfl) ?_ ?_
      · intro h22
        have k22 := eq_of_beqt h22; try simp only [List.length_map] at k22
        obtain ⟨ck, u, us, hcc⟩ : ∃ ck u us, cc = ⟨ck, u :: us⟩ := by (obtain ⟨_, k2, _⟩ := (goodCells_facts ok6b).2.2 cc (List.mem_of_getElem? hc); cases cc with | mk ck vs => cases vs with | nil => simp at k2 | cons u us => exact ⟨ck, u, us, rfl⟩)
        subst hcc
        have hng : List.Perm (nin TCell.ow x6.2.1 x6.2.2.2) ([Go.AV.Own.arr y 155 3 ([] ++ TVer.cs u :: us.map TVer.cs)] ++ nin TCell.ow (x6.2.1.eraseIdx k) (x6.2.2.2.eraseIdx k)) := by (have h7 := nin_get (ow := TCell.ow) hc hy; unfold TCell.ow at h7 ⊢; exact h7)
        rw [nrows_split hc hy]
        refine awp_own (by first | (simp only [List.singleton_append, pick, List.eraseIdx_cons_zero, List.eraseIdx_cons_succ, List.set_cons_zero, List.set_cons_succ, List.cons_append, List.nil_append, List.getElem?_cons_zero, List.getElem?_cons_succ, List.append_nil, List.take_succ_cons, List.take_zero, List.drop_succ_cons, List.drop_zero]; exact rfl) | exact rfl) ?_
        refine AWP.le (le_tail 2 (t := ([Go.AV.Own.arr y 155 3 ([] ++ TVer.cs u :: us.map TVer.cs)]) ++ (nin TCell.ow (x6.2.1.eraseIdx k) (x6.2.2.2.eraseIdx k))) (hng)) ?_
        refine AWP.le (le_pick [1, 1, 0] rfl) ?_
        refine awp_region_mix _ [(0, false), (1, false), (2, false), (3, false), (4, false), (5, false), (6, false), (7, true)] (by kernel_rfl) (by kernel_rfl) rfl (invx_take 2) ?_
        refine bc_plain rfl rfl rfl (fun ext => w_move rfl (ev_tmp rfl)) ?_
        refine bc_plain rfl rfl rfl (fun ext => w_move rfl (ev_tmp rfl)) ?_
        refine bc_plain rfl rfl rfl (fun ext => w_aidx 0 rfl Try.underlying53 Try.sizeOf153 (ev_tmp rfl) rfl (ev_tmp rfl) (by omega) (by first | omega | (rw [List.length_append, List.length_cons]; omega))) ?_
        refine bc_plain rfl rfl rfl (fun ext => w_fldX 0 rfl Try.underlying153 rfl Try.sizeOf151 (ev_tmp rfl) rfl rfl (app_get hA)) ?_
        refine bc_plain rfl rfl rfl (fun ext => w_loadXf 0 rfl (ev_tmp rfl) rfl Try.isAgg151 (app_get hA) rfl) ?_
        refine bc_plain rfl rfl rfl (fun ext => w_move rfl (ev_tmp rfl)) ?_
        refine bc_plain rfl rfl rfl (fun ext => w_bslice rfl Try.underlying94 Try.sizeOf3 Try.zeroValue3 rfl rfl rfl rfl (bp_cons ev_ci (as_ik _ _) (bp_cons ev_ci (as_ik _ _) (bp_cons ev_ci (as_ik _ _) bp_nil))) rfl rfl) ?_
        refine bc_eff rfl rfl rfl (opE_mid 2 (opE_call [2] rfl Try.call107 rfl (curAmong_own _ _ hcode _ ([(0), (100000), (100001)] : List Int) (by decide) (by omega)) (evl_cons (ev_tmp rfl) (evl_cons (ev_tmp rfl) evl_nil)) rfl)) (fun a _ => (by first | exact invx_mk rfl | exact invx_mk (List.append_assoc _ _ _) | exact invx_all)) ?_
        intro x31 ok31
        obtain ⟨l2, hl2⟩ : ∃ l2, x6.2.1.set k ⟨ck, ⟨x31.2, u.Val, u.Gone⟩ :: us⟩ = l2 := ⟨_, rfl⟩
        have hls : sizeL TCell.size l2 ≤ 30000 := by (have h9 := sizeL_set (f := TCell.size) (x := ⟨ck, ⟨x31.2, u.Val, u.Gone⟩ :: us⟩) (l := x6.2.1) (k := k); rw [hl2] at h9; have h8 : TCell.size ⟨ck, ⟨x31.2, u.Val, u.Gone⟩ :: us⟩ = TCell.size ⟨ck, u :: us⟩ := by simp only [TCell.size, sizeL_cons, TVer.size]); omega
        have hl2k : l2[k]? = some ⟨ck, ⟨x31.2, u.Val, u.Gone⟩ :: us⟩ := by rw [← hl2]; exact List.getElem?_set_self hkl
        have hq : ∀ own : List Go.AV.Own, (∀ o ∈ nin TCell.ow l2 x6.2.2.2, o ∈ own) → LendE own (nrows TCell.ocs (x6.2.1.take k) (x6.2.2.2.take k) ++ TCell.ocs ⟨ck, u :: us⟩ y :: nrows TCell.ocs (x6.2.1.drop (k + 1)) (x6.2.2.2.drop (k + 1))) (l2.map TCell.cs) := fun own hm => (by rw [show nrows TCell.ocs (x6.2.1.take k) (x6.2.2.2.take k) ++ TCell.ocs ⟨ck, u :: us⟩ y :: nrows TCell.ocs (x6.2.1.drop (k + 1)) (x6.2.2.2.drop (k + 1)) = nrows TCell.ocs l2 x6.2.2.2 from hl2 ▸ nrows_join (p' := ⟨ck, ⟨x31.2, u.Val, u.Gone⟩ :: us⟩) hc hy]; exact nin_lendE TCell.lcM (by rw [← hl2, List.length_set]; exact ok6c) hm)
        have hpm := nin_set (ow := TCell.ow) (p' := ⟨ck, ⟨x31.2, u.Val, u.Gone⟩ :: us⟩) hc hy
        rw [hl2] at hpm
        refine bc_nil ?_
        refine sq_plain rfl rfl rfl (w_aidx 1 rfl Try.underlying151 Try.sizeOf155 (ev_tmp rfl) rfl ev_ci (by omega) (by first | omega | (rw [List.length_append, List.length_cons]; omega))) ?_
        refine sq_plain rfl rfl rfl (w_fldX 1 rfl Try.underlying155 rfl Try.sizeOf3 (ev_tmp rfl) rfl rfl (app_get rfl)) ?_
        refine sq_storeXA 1 rfl rfl rfl (ev_tmp rfl) (ev_tmp rfl) (as_ik _ _) rfl Try.sizeOf3 rfl rfl ?_
        refine sq_nil ?_
        refine awp_seq ?_
        refine AWP.le (le_pick [0, 1, 0] rfl) ?_
        refine AWP.le (le_tail 2 (t := nin TCell.ow l2 x6.2.2.2) (hpm)) ?_
        refine awp_region ?_
        refine sq_le (le_sealT 2 0 (.arr x6.2.2.1 153 2 (l2.map TCell.cs)) rfl (⟨rfl, rfl, rfl, hq _ (fun _ ho => ho)⟩) (gin_cons 1 rfl rfl gin_nil)) ?_
        refine sq_plain rfl rfl rfl (w_move rfl (ev_tmp rfl)) ?_
        refine sq_le (le_sealD [0] 40 rfl rfl (lt_arr (List.mem_of_getElem? (i := 0) rfl) le_refl_e) (gin_cons 0 rfl rfl gin_nil)) ?_
        refine sq_plain rfl rfl rfl (w_assign rfl (ev_tmp rfl)) ?_
        refine sq_nil ?_
        refine awp_ret ?_
        first | (refine retG [0] ((x6.1, l2)) ?_ rfl (by first | (dsimp only; rfl) | rfl) (resR rfl (rv_tmp' rfl (by rfl))); (dsimp only; exact ⟨by omega, hls⟩)) | (refine retG [0] ((x15.1, l2)) ?_ rfl (by first | (dsimp only; rfl) | rfl) (resR rfl (rv_tmp' rfl (by rfl))); (dsimp only; exact ⟨by omega, hls⟩)) | (refine retG [0] ((x31.1, l2)) ?_ rfl (by first | (dsimp only; rfl) | rfl) (resR rfl (rv_tmp' rfl (by rfl))); (dsimp only; exact ⟨by omega, hls⟩))
      · intro h22
        have k22 := ne_of_beqf h22; try simp only [List.length_map] at k22
        refine awp_seq ?_
        refine awp_region ?_
        refine sq_plain rfl rfl rfl (w_eql rfl (ev_tmp rfl) ev_ci) ?_
        refine sq_plain rfl rfl rfl (w_assign rfl (ev_tmp rfl)) ?_
        refine sq_nil ?_
        refine awp_cond (ev_tmp rfl) ?_ ?_
        · intro h34
          have k34 := eq_of_beqt h34; try simp only [List.length_map] at k34
          obtain ⟨l2, hl2⟩ : ∃ l2, x6.2.1.set k ⟨cc.Key, []⟩ = l2 := ⟨_, rfl⟩
          have hls : sizeL TCell.size l2 ≤ 30000 := by (have h9 := sizeL_set (f := TCell.size) (x := ⟨cc.Key, []⟩) (l := x6.2.1) (k := k); rw [hl2] at h9; have h8 : TCell.size ⟨cc.Key, []⟩ ≤ cc.size := by simp only [TCell.size]; unfold sizeL; simp); omega
          have hq : ∀ own : List Go.AV.Own, (∀ o ∈ nin TCell.ow x6.2.1 x6.2.2.2, o ∈ own) → LendE own (nrows TCell.ocs (x6.2.1.take k) (x6.2.2.2.take k) ++ [AV.str cc.Key, AV.nils] :: nrows TCell.ocs (x6.2.1.drop (k + 1)) (x6.2.2.2.drop (k + 1))) (l2.map TCell.cs) := fun own hm => hl2 ▸ lendE_put ok6c hc hy hm (lc_cons lt_refl (lc_cons lt_nils lc_nil))
          rw [nrows_split hc hy]
          refine awp_region ?_
          refine sq_plain rfl rfl rfl (w_move rfl (ev_tmp rfl)) ?_
          refine sq_plain rfl rfl rfl (w_move rfl (ev_tmp rfl)) ?_
          refine sq_plain rfl rfl rfl (w_aidx 1 rfl Try.underlying53 Try.sizeOf153 (ev_tmp rfl) rfl (ev_tmp rfl) (by omega) (by first | omega | (rw [List.length_append, List.length_cons]; omega))) ?_
          refine sq_plain rfl rfl rfl (w_fldX 1 rfl Try.underlying153 rfl Try.sizeOf151 (ev_tmp rfl) rfl rfl (app_get hA)) ?_
          refine sq_storeXA 1 rfl rfl rfl (ev_tmp rfl) ev_cnils (as_is rfl) rfl Try.sizeOf151 hA rfl ?_
          refine sq_nil ?_
          refine awp_seq ?_
          refine awp_region ?_
          refine sq_le (le_sealT 2 1 (.arr x6.2.2.1 153 2 (l2.map TCell.cs)) rfl (⟨rfl, rfl, rfl, hq _ (fun _ ho => ho)⟩) (gin_cons 0 rfl rfl gin_nil)) ?_
          refine sq_plain rfl rfl rfl (w_move rfl (ev_tmp rfl)) ?_
          refine sq_le (le_sealD [1] 40 rfl rfl (lt_arr (List.mem_of_getElem? (i := 0) rfl) le_refl_e) (gin_cons 0 rfl rfl gin_nil)) ?_
          refine sq_plain rfl rfl rfl (w_assign rfl (ev_tmp rfl)) ?_
          refine sq_nil ?_
          refine awp_ret ?_
          first | (refine retG [0] ((x6.1, l2)) ?_ rfl (by first | (dsimp only; rfl) | rfl) (resR rfl (rv_tmp' rfl (by rfl))); (dsimp only; exact ⟨by omega, hls⟩)) | (refine retG [0] ((x15.1, l2)) ?_ rfl (by first | (dsimp only; rfl) | rfl) (resR rfl (rv_tmp' rfl (by rfl))); (dsimp only; exact ⟨by omega, hls⟩)) | (refine retG [0] ((x31.1, l2)) ?_ rfl (by first | (dsimp only; rfl) | rfl) (resR rfl (rv_tmp' rfl (by rfl))); (dsimp only; exact ⟨by omega, hls⟩))
        · intro h34
          have k34 := ne_of_beqf h34; try simp only [List.length_map] at k34
          obtain ⟨l2, hl2⟩ : ∃ l2, x6.2.1 = l2 := ⟨_, rfl⟩
          have hls : sizeL TCell.size l2 ≤ 30000 := by rw [← hl2]; omega
          have hq : ∀ own : List Go.AV.Own, (∀ o ∈ nin TCell.ow x6.2.1 x6.2.2.2, o ∈ own) → LendE own (nrows TCell.ocs x6.2.1 x6.2.2.2) (l2.map TCell.cs) := fun own hm => hl2 ▸ nin_lendE TCell.lcM ok6c hm
          refine awp_skip ?_
          refine awp_seq ?_
          refine awp_region ?_
          refine sq_le (le_sealT 2 1 (.arr x6.2.2.1 153 2 (l2.map TCell.cs)) rfl (⟨rfl, rfl, rfl, hq _ (fun _ ho => ho)⟩) (gin_cons 0 rfl rfl gin_nil)) ?_
          refine sq_plain rfl rfl rfl (w_move rfl (ev_tmp rfl)) ?_
          refine sq_le (le_sealD [1] 40 rfl rfl (lt_arr (List.mem_of_getElem? (i := 0) rfl) le_refl_e) (gin_cons 0 rfl rfl gin_nil)) ?_
          refine sq_plain rfl rfl rfl (w_assign rfl (ev_tmp rfl)) ?_
          refine sq_nil ?_
          refine awp_ret ?_
          first | (refine retG [0] ((x6.1, l2)) ?_ rfl (by first | (dsimp only; rfl) | rfl) (resR rfl (rv_tmp' rfl (by rfl))); (dsimp only; exact ⟨by omega, hls⟩)) | (refine retG [0] ((x15.1, l2)) ?_ rfl (by first | (dsimp only; rfl) | rfl) (resR rfl (rv_tmp' rfl (by rfl))); (dsimp only; exact ⟨by omega, hls⟩)) | (refine retG [0] ((x31.1, l2)) ?_ rfl (by first | (dsimp only; rfl) | rfl) (resR rfl (rv_tmp' rfl (by rfl))); (dsimp only; exact ⟨by omega, hls⟩))
  · intro h9
    have k9 := of_decide_eq_false h9; try simp only [List.length_map] at k9
    obtain ⟨l2, hl2⟩ : ∃ l2, x6.2.1 = l2 := ⟨_, rfl⟩
    have hls : sizeL TCell.size l2 ≤ 30000 := by rw [← hl2]; omega
    have hq : ∀ own : List Go.AV.Own, (∀ o ∈ nin TCell.ow x6.2.1 x6.2.2.2, o ∈ own) → LendE own (nrows TCell.ocs x6.2.1 x6.2.2.2) (l2.map TCell.cs) := fun own hm => hl2 ▸ nin_lendE TCell.lcM ok6c hm
    refine awp_skip ?_
    refine awp_seq ?_
    refine awp_region ?_
    refine sq_le (le_sealT 2 1 (.arr x6.2.2.1 153 2 (l2.map TCell.cs)) rfl (⟨rfl, rfl, rfl, hq _ (fun _ ho => ho)⟩) (gin_cons 0 rfl rfl gin_nil)) ?_
    refine sq_plain rfl rfl rfl (w_move rfl (ev_tmp rfl)) ?_
    refine sq_le (le_sealD [1] 40 rfl rfl (lt_arr (List.mem_of_getElem? (i := 0) rfl) le_refl_e) (gin_cons 0 rfl rfl gin_nil)) ?_
    refine sq_plain rfl rfl rfl (w_assign rfl (ev_tmp rfl)) ?_
    refine sq_nil ?_
    refine awp_ret ?_
    first | (refine retG [0] ((x6.1, l2)) ?_ rfl (by first | (dsimp only; rfl) | rfl) (resR rfl (rv_tmp' rfl (by rfl))); (dsimp only; exact ⟨by omega, hls⟩)) | (refine retG [0] ((x15.1, l2)) ?_ rfl (by first | (dsimp only; rfl) | rfl) (resR rfl (rv_tmp' rfl (by rfl))); (dsimp only; exact ⟨by omega, hls⟩)) | (refine retG [0] ((x31.1, l2)) ?_ rfl (by first | (dsimp only; rfl) | rfl) (resR rfl (rv_tmp' rfl (by rfl))); (dsimp only; exact ⟨by omega, hls⟩))
end Go.Proofs.Yteliahajeokciaa

set_option linter.unusedVariables false
set_option linter.unusedSimpArgs false
set_option maxRecDepth 100000
set_option maxHeartbeats 1000000
namespace Go.Proofs.Yteliahajeokciaa
open Go Go.AV Go.M
attribute [local irreducible] OpW OpA OpS AWP FSpec ESpec GSpec OpE RetOk RetOkG RvDen Le Ev GuardIs SrcIs Int.tmod IntKind.wrap bandI
theorem tdiv_19 {n : Int} (h : 0 ≤ n ∧ (n < 20 ∨ n = 0)) : 0 ≤ n.tdiv 19 ∧ n.tdiv 19 ≤ 1 := by
  obtain ⟨k, rfl⟩ : ∃ k : Nat, n = k := ⟨n.toNat, by omega⟩
  rw [show ((19 : Int)) = ((19 : Nat) : Int) from rfl, ← Int.ofNat_tdiv]
  omega
theorem drawCellsAt_own (code : List Int) (hcode : ByteL code) : GSpec Try.prog 53 [bytesI code] [] (fun x : List TCell × Int => sizeL TCell.size x.1 ≤ 30000 ∧ -1 ≤ x.2 ∧ x.2 ≤ 19) (fun x => []) (fun x => AV.tup [AV.list 2 (x.1.map TCell.cs), AV.int x.2]) := by
  refine gspec_of_awp Try.func53 rfl Try.ntmps53 rfl ?_
  refine awp_seq ?_
  refine awp_region ?_
  refine sq_plain rfl rfl rfl (w_assign rfl ev_cnils) ?_
  refine sq_plain rfl rfl rfl (w_assign rfl ev_ci) ?_
  refine sq_nil ?_
  refine awp_seq ?_
  refine awp_region ?_
  refine sq_plain rfl rfl rfl (w_move rfl (ev_tmp rfl)) ?_
  refine sq_plain rfl rfl rfl (w_build (places := #[(0, 1), (1, 1), (2, 1)]) rfl Try.underlying123 Try.zeroValue123 (fun w => by kernel_rfl) rfl (bp_cons (ev_tmp rfl) (as_list _ _) bp_nil) rfl) ?_
  refine sq_box rfl rfl rfl rfl (ev_tmp rfl) ?_
  intro b7
  refine sq_plain rfl rfl rfl (w_assign rfl (ev_tmp rfl)) ?_
  refine sq_nil ?_
  refine awp_seq ?_
  refine awp_region ?_
  refine sq_plain rfl rfl rfl (w_move rfl (ev_tmp rfl)) ?_
  refine sq_callG [0] rfl rfl rfl rfl Try.call150 rfl (curAnyCells_own _ _ hcode ⟨0, 0⟩ (by decide)) (evl_cons (ev_tmp rfl) evl_nil) rfl ?_
  intro x9 ok9
  have hp9 : x9.1.p ≤ 340 := ok9.1
  refine sq_plain rfl rfl rfl (w_move rfl (ev_tmp rfl)) ?_
  refine sq_callG [0] rfl rfl rfl rfl Try.call131 rfl (curPick_own _ _ hcode _ _ (by omega) (by omega)) (evl_cons (ev_tmp rfl) (evl_cons ev_ci evl_nil)) rfl ?_
  intro x11 ok11
  refine sq_plain rfl rfl rfl (w_move rfl (ev_tmp rfl)) ?_
  refine sq_callG [0] rfl rfl rfl rfl Try.call131 rfl (curPick_own _ _ hcode _ _ (by omega) (by omega)) (evl_cons (ev_tmp rfl) (evl_cons ev_ci evl_nil)) rfl ?_
  intro x13 ok13
  refine sq_plain rfl rfl rfl (w_quo rfl (ev_tmp rfl) ev_ci (by decide)) ?_
  have hq13 := tdiv_19 ok13.2
  rw [show IntKind.i64.wrap (x13.2.tdiv 19) = x13.2.tdiv 19 from in64 (by omega)]
  refine sq_plain rfl rfl rfl (w_subi rfl (ev_tmp rfl) (ev_tmp rfl) (by first | omega | ((try simp only [List.length_map, List.length_take, List.length_cons, List.length_nil, chunks_len, szR] at *); omega) | (have hc2 := hc; simp only [Bool.and_eq_true, Bool.or_eq_true, Bool.or_eq_false_iff, Bool.and_eq_false_iff, Bool.not_eq_true', Bool.not_eq_false', decide_eq_true_eq, decide_eq_false_iff_not, beq_iff_eq, bne_iff_ne, List.length_map, List.length_take] at hc2; omega))) ?_
  refine sq_plain rfl rfl rfl (w_assign rfl (ev_tmp rfl)) ?_
  refine sq_plain rfl rfl rfl (w_assign rfl (ev_tmp rfl)) ?_
  refine sq_nil ?_
  refine awp_ret ?_
  (refine retG [] ((x9.2, _)) ?_ rfl (by first | (dsimp only; rfl) | rfl) (resN rfl (by decide) (rv_cons (rv_tmp' rfl (by rfl)) (rv_cons (rv_tmp' rfl (by rfl)) rv_nil))); exact ⟨ok9.2, show -1 ≤ _ ∧ _ by (try dsimp only); omega⟩)
theorem drawTrimCells_own (code : List Int) (hcode : ByteL code) : GSpec Try.prog 45 [bytesI code] [] (fun x : List TCell × Int => sizeL TCell.size x.1 ≤ 30000 ∧ -1 ≤ x.2 ∧ x.2 ≤ 19) (fun x => []) (fun x => AV.tup [AV.list 2 (x.1.map TCell.cs), AV.int x.2]) := by
  refine gspec_of_awp Try.func45 rfl Try.ntmps45 rfl ?_
  refine awp_seq ?_
  refine awp_region ?_
  refine sq_plain rfl rfl rfl (w_assign rfl ev_cnils) ?_
  refine sq_plain rfl rfl rfl (w_assign rfl ev_ci) ?_
  refine sq_nil ?_
  refine awp_seq ?_
  refine awp_region ?_
  refine sq_plain rfl rfl rfl (w_move rfl (ev_tmp rfl)) ?_
  refine sq_callG [] rfl rfl rfl rfl Try.call53 rfl (drawCellsAt_own code hcode) (evl_cons (ev_tmp rfl) evl_nil) rfl ?_
  intro x5 ok5
  refine sq_plain rfl rfl rfl (w_extract rfl (ev_tmp rfl) rfl) ?_
  refine sq_plain rfl rfl rfl (w_extract rfl (ev_tmp rfl) rfl) ?_
  refine sq_plain rfl rfl rfl (w_assign rfl (ev_tmp rfl)) ?_
  refine sq_plain rfl rfl rfl (w_assign rfl (ev_tmp rfl)) ?_
  refine sq_nil ?_
  refine awp_ret ?_
  (refine retG [] (x5) ?_ rfl (by first | (dsimp only; rfl) | rfl) (resN rfl (by decide) (rv_cons (rv_tmp' rfl (by rfl)) (rv_cons (rv_tmp' rfl (by rfl)) rv_nil))); exact ok5)
theorem drawGoodVal_own (code : List Int) (hcode : ByteL code) : GSpec Try.prog 55 [bytesI code] [] (fun x : Str => x.length ≤ 64) (fun x => []) (fun x => AV.str x) := by
  refine gspec_of_awp Try.func55 rfl Try.ntmps55 rfl ?_
  refine awp_seq ?_
  refine awp_region ?_
  refine sq_plain rfl rfl rfl (w_assign rfl (ev_cs' (l := []) rfl)) ?_
  refine sq_nil ?_
  refine awp_seq ?_
  refine awp_region ?_
  refine sq_plain rfl rfl rfl (w_move rfl (ev_tmp rfl)) ?_
  refine sq_plain rfl rfl rfl (w_build (places := #[(0, 1), (1, 1), (2, 1)]) rfl Try.underlying123 Try.zeroValue123 (fun w => by kernel_rfl) rfl (bp_cons (ev_tmp rfl) (as_list _ _) bp_nil) rfl) ?_
  refine sq_box rfl rfl rfl rfl (ev_tmp rfl) ?_
  intro b6
  refine sq_plain rfl rfl rfl (w_assign rfl (ev_tmp rfl)) ?_
  refine sq_nil ?_
  refine awp_seq ?_
  refine awp_region ?_
  refine sq_plain rfl rfl rfl (w_move rfl (ev_tmp rfl)) ?_
  refine sq_plain rfl rfl rfl (w_bslice rfl Try.underlying29 Try.sizeOf9 Try.zeroValue9 rfl rfl rfl rfl (bp_cons (ev_cs' (l := []) rfl) (as_str _) (bp_cons (ev_cs' (l := [45, 49]) rfl) (as_str _) (bp_cons (ev_cs' (l := [97, 44, 98, 95, 99, 46, 100]) rfl) (as_str _) (bp_cons (ev_cs' (l := [65]) rfl) (as_str _) (bp_cons (ev_cs' (l := [97, 32, 98]) rfl) (as_str _) (bp_cons (ev_cs' (l := [48, 49, 50, 51, 52, 53, 54, 55, 56, 57, 48, 49, 50, 51, 52, 53, 54, 55, 56, 57, 48, 49, 50, 51]) rfl) (as_str _) (bp_cons (ev_cs' (l := [48, 49, 50, 51, 52, 53, 54, 55, 56, 57, 48, 49, 50, 51, 52, 53, 54, 55, 56, 57, 48, 49, 50, 51, 52]) rfl) (as_str _) bp_nil))))))) rfl rfl) ?_
  refine sq_callG [0] rfl rfl rfl rfl Try.call113 rfl (curOf_own _ _ hcode ⟨0, 0⟩ ([[], [45, 49], [97, 44, 98, 95, 99, 46, 100], [65], [97, 32, 98], [48, 49, 50, 51, 52, 53, 54, 55, 56, 57, 48, 49, 50, 51, 52, 53, 54, 55, 56, 57, 48, 49, 50, 51], [48, 49, 50, 51, 52, 53, 54, 55, 56, 57, 48, 49, 50, 51, 52, 53, 54, 55, 56, 57, 48, 49, 50, 51, 52]] : List Str) (by decide) (by decide)) (evl_cons (ev_tmp rfl) (evl_cons (ev_tmp rfl) evl_nil)) rfl ?_
  intro x9 ok9
  refine sq_plain rfl rfl rfl (w_assign rfl (ev_tmp rfl)) ?_
  refine sq_nil ?_
  refine awp_ret ?_
  (refine retG [] (x9.2) ?_ rfl (by first | (dsimp only; rfl) | rfl) (resR rfl (rv_tmp' rfl (by rfl))); exact ok9.2)
theorem drawCellAt_own (code : List Int) (hcode : ByteL code) : GSpec Try.prog 65 [bytesI code] [] (fun x : List TCell × Str × Int => sizeL TCell.size x.1 ≤ 30000 ∧ x.2.1.length ≤ 64 ∧ -1 ≤ x.2.2 ∧ x.2.2 ≤ 19) (fun x => []) (fun x => AV.tup [AV.list 2 (x.1.map TCell.cs), AV.str x.2.1, AV.int x.2.2]) := by
  refine gspec_of_awp Try.func65 rfl Try.ntmps65 rfl ?_
  refine awp_seq ?_
  refine awp_region ?_
  refine sq_plain rfl rfl rfl (w_assign rfl ev_cnils) ?_
  refine sq_plain rfl rfl rfl (w_assign rfl (ev_cs' (l := []) rfl)) ?_
  refine sq_plain rfl rfl rfl (w_assign rfl ev_ci) ?_
  refine sq_nil ?_
  refine awp_seq ?_
  refine awp_region ?_
  refine sq_plain rfl rfl rfl (w_move rfl (ev_tmp rfl)) ?_
  refine sq_plain rfl rfl rfl (w_build (places := #[(0, 1), (1, 1), (2, 1)]) rfl Try.underlying123 Try.zeroValue123 (fun w => by kernel_rfl) rfl (bp_cons (ev_tmp rfl) (as_list _ _) bp_nil) rfl) ?_
  refine sq_box rfl rfl rfl rfl (ev_tmp rfl) ?_
  intro b8
  refine sq_plain rfl rfl rfl (w_assign rfl (ev_tmp rfl)) ?_
  refine sq_nil ?_
  refine awp_seq ?_
  refine awp_region ?_
  refine sq_plain rfl rfl rfl (w_move rfl (ev_tmp rfl)) ?_
  refine sq_callG [0] rfl rfl rfl rfl Try.call150 rfl (curAnyCells_own _ _ hcode ⟨0, 0⟩ (by decide)) (evl_cons (ev_tmp rfl) evl_nil) rfl ?_
  intro x10 ok10
  have hp10 : x10.1.p ≤ 340 := ok10.1
  refine sq_plain rfl rfl rfl (w_move rfl (ev_tmp rfl)) ?_
  refine sq_callG [0] rfl rfl rfl rfl Try.call165 rfl (curKey_own _ _ hcode _ (by omega)) (evl_cons (ev_tmp rfl) evl_nil) rfl ?_
  intro x12 ok12
  refine sq_plain rfl rfl rfl (w_move rfl (ev_tmp rfl)) ?_
  refine sq_callG [0] rfl rfl rfl rfl Try.call131 rfl (curPick_own _ _ hcode _ _ (by omega) (by omega)) (evl_cons (ev_tmp rfl) (evl_cons ev_ci evl_nil)) rfl ?_
  intro x14 ok14
  refine sq_plain rfl rfl rfl (w_move rfl (ev_tmp rfl)) ?_
  refine sq_callG [0] rfl rfl rfl rfl Try.call131 rfl (curPick_own _ _ hcode _ _ (by omega) (by omega)) (evl_cons (ev_tmp rfl) (evl_cons ev_ci evl_nil)) rfl ?_
  intro x16 ok16
  refine sq_plain rfl rfl rfl (w_quo rfl (ev_tmp rfl) ev_ci (by decide)) ?_
  have hq16 := tdiv_19 ok16.2
  rw [show IntKind.i64.wrap (x16.2.tdiv 19) = x16.2.tdiv 19 from in64 (by omega)]
  refine sq_plain rfl rfl rfl (w_subi rfl (ev_tmp rfl) (ev_tmp rfl) (by first | omega | ((try simp only [List.length_map, List.length_take, List.length_cons, List.length_nil, chunks_len, szR] at *); omega) | (have hc2 := hc; simp only [Bool.and_eq_true, Bool.or_eq_true, Bool.or_eq_false_iff, Bool.and_eq_false_iff, Bool.not_eq_true', Bool.not_eq_false', decide_eq_true_eq, decide_eq_false_iff_not, beq_iff_eq, bne_iff_ne, List.length_map, List.length_take] at hc2; omega))) ?_
  refine sq_plain rfl rfl rfl (w_assign rfl (ev_tmp rfl)) ?_
  refine sq_plain rfl rfl rfl (w_assign rfl (ev_tmp rfl)) ?_
  refine sq_plain rfl rfl rfl (w_assign rfl (ev_tmp rfl)) ?_
  refine sq_nil ?_
  refine awp_ret ?_
  (refine retG [] ((x10.2, x12.2, _)) ?_ rfl (by first | (dsimp only; rfl) | rfl) (resN rfl (by decide) (rv_cons (rv_tmp' rfl (by rfl)) (rv_cons (rv_tmp' rfl (by rfl)) (rv_cons (rv_tmp' rfl (by rfl)) rv_nil)))); exact ⟨ok10.2, ok12.2, show -1 ≤ _ ∧ _ by (try dsimp only); omega⟩)
theorem drawLastTime_own (code : List Int) (hcode : ByteL code) : GSpec Try.prog 67 [bytesI code] [] (fun x : List TCell × Str => sizeL TCell.size x.1 ≤ 30000 ∧ x.2.length ≤ 64) (fun x => []) (fun x => AV.tup [AV.list 2 (x.1.map TCell.cs), AV.str x.2]) := by
  refine gspec_of_awp Try.func67 rfl Try.ntmps67 rfl ?_
  refine awp_seq ?_
  refine awp_region ?_
  refine sq_plain rfl rfl rfl (w_assign rfl ev_cnils) ?_
  refine sq_plain rfl rfl rfl (w_assign rfl (ev_cs' (l := []) rfl)) ?_
  refine sq_nil ?_
  refine awp_seq ?_
  refine awp_region ?_
  refine sq_plain rfl rfl rfl (w_move rfl (ev_tmp rfl)) ?_
  refine sq_plain rfl rfl rfl (w_build (places := #[(0, 1), (1, 1), (2, 1)]) rfl Try.underlying123 Try.zeroValue123 (fun w => by kernel_rfl) rfl (bp_cons (ev_tmp rfl) (as_list _ _) bp_nil) rfl) ?_
  refine sq_box rfl rfl rfl rfl (ev_tmp rfl) ?_
  intro b7
  refine sq_plain rfl rfl rfl (w_assign rfl (ev_tmp rfl)) ?_
  refine sq_nil ?_
  refine awp_seq ?_
  refine awp_region ?_
  refine sq_plain rfl rfl rfl (w_move rfl (ev_tmp rfl)) ?_
  refine sq_callG [0] rfl rfl rfl rfl Try.call150 rfl (curAnyCells_own _ _ hcode ⟨0, 0⟩ (by decide)) (evl_cons (ev_tmp rfl) evl_nil) rfl ?_
  intro x9 ok9
  have hp9 : x9.1.p ≤ 340 := ok9.1
  refine sq_plain rfl rfl rfl (w_move rfl (ev_tmp rfl)) ?_
  refine sq_callG [0] rfl rfl rfl rfl Try.call165 rfl (curKey_own _ _ hcode _ (by omega)) (evl_cons (ev_tmp rfl) evl_nil) rfl ?_
  intro x11 ok11
  refine sq_plain rfl rfl rfl (w_assign rfl (ev_tmp rfl)) ?_
  refine sq_plain rfl rfl rfl (w_assign rfl (ev_tmp rfl)) ?_
  refine sq_nil ?_
  refine awp_ret ?_
  (refine retG [] ((x9.2, x11.2)) ?_ rfl (by first | (dsimp only; rfl) | rfl) (resN rfl (by decide) (rv_cons (rv_tmp' rfl (by rfl)) (rv_cons (rv_tmp' rfl (by rfl)) rv_nil))); exact ⟨ok9.2, ok11.2⟩)
theorem among_range {n : Int} (h : n ∈ [(3 : Int), 8, 20, 30, 30, 30, 0, 100000, 100001]) : 0 ≤ n ∧ n ≤ 100001 := by
  simp at h; omega
theorem drawPutCells_own (code : List Int) (hcode : ByteL code) : GSpec Try.prog 58 [bytesI code] [] (fun x : List TCell × (List TWrite × Value) × Int => sizeL TCell.size x.1 ≤ 30000 ∧ sizeL TWrite.size x.2.1.1 ≤ 700 ∧ 0 ≤ x.2.2 ∧ x.2.2 ≤ 100001) (fun x => [.arr x.2.1.2 65 3 (x.2.1.1.map TWrite.cs)]) (fun x => AV.tup [AV.list 2 (x.1.map TCell.cs), AV.is x.2.1.2, AV.int x.2.2]) := by
  refine gspec_of_awp Try.func58 rfl Try.ntmps58 rfl ?_
  refine awp_seq ?_
  refine awp_region ?_
  refine sq_plain rfl rfl rfl (w_assign rfl ev_cnils) ?_
  refine sq_plain rfl rfl rfl (w_assign rfl ev_cnils) ?_
  refine sq_plain rfl rfl rfl (w_assign rfl ev_ci) ?_
  refine sq_nil ?_
  refine awp_seq ?_
  refine awp_region ?_
  refine sq_plain rfl rfl rfl (w_move rfl (ev_tmp rfl)) ?_
  refine sq_plain rfl rfl rfl (w_build (places := #[(0, 1), (1, 1), (2, 1)]) rfl Try.underlying123 Try.zeroValue123 (fun w => by kernel_rfl) rfl (bp_cons (ev_tmp rfl) (as_list _ _) bp_nil) rfl) ?_
  refine sq_box rfl rfl rfl rfl (ev_tmp rfl) ?_
  intro b8
  refine sq_plain rfl rfl rfl (w_assign rfl (ev_tmp rfl)) ?_
  refine sq_nil ?_
  refine awp_seq ?_
  refine awp_region ?_
  refine sq_plain rfl rfl rfl (w_move rfl (ev_tmp rfl)) ?_
  refine sq_callG [0] rfl rfl rfl rfl Try.call150 rfl (curAnyCells_own _ _ hcode ⟨0, 0⟩ (by decide)) (evl_cons (ev_tmp rfl) evl_nil) rfl ?_
  intro x10 ok10
  have hp10 : x10.1.p ≤ 340 := ok10.1
  refine sq_plain rfl rfl rfl (w_move rfl (ev_tmp rfl)) ?_
  refine sq_callG [0] rfl rfl rfl rfl Try.call154 rfl (curAnyWrites_own _ _ hcode _ (by omega)) (evl_cons (ev_tmp rfl) evl_nil) rfl ?_
  intro x12 ok12
  refine sq_plain rfl rfl rfl (w_move rfl (ev_tmp rfl)) ?_
  refine sq_plain rfl rfl rfl (w_bslice rfl Try.underlying94 Try.sizeOf3 Try.zeroValue3 rfl rfl rfl rfl (bp_cons ev_ci (as_ik _ _) (bp_cons ev_ci (as_ik _ _) (bp_cons ev_ci (as_ik _ _) (bp_cons ev_ci (as_ik _ _) (bp_cons ev_ci (as_ik _ _) (bp_cons ev_ci (as_ik _ _) (bp_cons ev_ci (as_ik _ _) (bp_cons ev_ci (as_ik _ _) (bp_cons ev_ci (as_ik _ _) bp_nil))))))))) rfl rfl) ?_
  refine sq_callG [0] rfl rfl rfl rfl Try.call107 rfl (curAmong_own _ _ hcode _ ([(3), (8), (20), (30), (30), (30), (0), (100000), (100001)] : List Int) (by decide) (by omega)) (evl_cons (ev_tmp rfl) (evl_cons (ev_tmp rfl) evl_nil)) rfl ?_
  intro x15 ok15
  refine sq_plain rfl rfl rfl (w_assign rfl (ev_tmp rfl)) ?_
  refine sq_plain rfl rfl rfl (w_assign rfl (ev_tmp rfl)) ?_
  refine sq_plain rfl rfl rfl (w_assign rfl (ev_tmp rfl)) ?_
  refine sq_nil ?_
  refine awp_ret ?_
  (refine retG [1] ((x10.2, (x12.2.1, x12.2.2), x15.2)) ?_ rfl (by first | (dsimp only; rfl) | rfl) (resN rfl (by decide) (rv_cons (rv_tmp' rfl (by rfl)) (rv_cons (rv_tmp' rfl (by rfl)) (rv_cons (rv_tmp' rfl (by rfl)) rv_nil)))); exact ⟨ok10.2, ok12.2, among_range ok15.2⟩)
theorem take_size {α : Type} {f : α → Nat} : ∀ {l : List α} {n : Nat}, sizeL f (l.take n) ≤ sizeL f l
  | [], n => by simp [sizeL]
  | v :: r, 0 => by simp [sizeL]
  | v :: r, n + 1 => by rw [List.take_succ_cons, sizeL_cons, sizeL_cons]; have := take_size (f := f) (l := r) (n := n); omega
theorem lendE_take {own : List Go.AV.Own} {α : Type} {c : α → List AV} {es : List (List AV)} {l : List α} {k : Nat} (h : LendE own es (l.map c)) : LendE own (es.take k) ((l.take k).map c) := by
  rw [List.map_take]
  refine ⟨by rw [List.length_take, List.length_take, h.1], fun i e f he hf => ?_⟩
  rw [List.getElem?_take] at he hf
  split at he
  · rename_i hi
    rw [if_pos hi] at hf
    exact h.2 i e f he hf
  · cases he
theorem drawSameCells_own (code : List Int) (hcode : ByteL code) : GSpec Try.prog 69 [bytesI code] [] (fun x : List TCell × List TCell => sizeL TCell.size x.1 ≤ 30000 ∧ sizeL TCell.size x.2 ≤ 90000) (fun x => []) (fun x => AV.tup [AV.list 2 (x.1.map TCell.cs), AV.list 2 (x.2.map TCell.cs)]) := by
  refine gspec_of_awp Try.func69 rfl Try.ntmps69 rfl ?_
  refine awp_seq ?_
  refine awp_region ?_
  refine sq_plain rfl rfl rfl (w_assign rfl ev_cnils) ?_
  refine sq_plain rfl rfl rfl (w_assign rfl ev_cnils) ?_
  refine sq_nil ?_
  refine awp_seq ?_
  refine awp_region ?_
  refine sq_plain rfl rfl rfl (w_move rfl (ev_tmp rfl)) ?_
  refine sq_plain rfl rfl rfl (w_build (places := #[(0, 1), (1, 1), (2, 1)]) rfl Try.underlying123 Try.zeroValue123 (fun w => by kernel_rfl) rfl (bp_cons (ev_tmp rfl) (as_list _ _) bp_nil) rfl) ?_
  refine sq_box rfl rfl rfl rfl (ev_tmp rfl) ?_
  intro b10
  refine sq_plain rfl rfl rfl (w_assign rfl (ev_tmp rfl)) ?_
  refine sq_nil ?_
  refine awp_seq ?_
  refine awp_region ?_
  refine sq_plain rfl rfl rfl (w_move rfl (ev_tmp rfl)) ?_
  refine sq_callG [0] rfl rfl rfl rfl Try.call150 rfl (curAnyCells_own _ _ hcode ⟨0, 0⟩ (by decide)) (evl_cons (ev_tmp rfl) evl_nil) rfl ?_
  intro x12 ok12
  have hp12 : x12.1.p ≤ 340 := ok12.1
  obtain ⟨l, hl⟩ : ∃ l, x12.2 = l := ⟨_, rfl⟩
  have hls : sizeL TCell.size l ≤ 30000 := hl ▸ ok12.2
  rw [hl]
  refine sq_plain rfl rfl rfl (w_assign rfl (ev_tmp rfl)) ?_
  refine sq_nil ?_
  refine awp_seq ?_
  refine awp_region ?_
  refine sq_plain rfl rfl rfl (w_move rfl (ev_tmp rfl)) ?_
  refine sq_callGT [] 1 1 ([]) ([]) (fun zz => nin TCell.ow l zz.2) rfl rfl rfl rfl Try.call169 rfl rfl (show List.Perm ([]) (([]) ++ ([])) from List.Perm.refl _) (l3Own_own l (by omega)) (evl_cons (ev_tmp rfl) evl_nil) (fun a => perm_lin) ?_
  intro x14 ok14
  have hrl : (nrows TCell.ocs l x14.2).length = l.length := nrows_len ok14
  have hlz : l.length ≤ 30000 := Nat.le_trans sizeL_len hls
  refine sq_plain rfl rfl rfl (w_assign rfl (ev_tmp rfl)) ?_
  refine sq_nil ?_
  refine awp_seq ?_
  refine awp_seq ?_
  refine awp_region ?_
  refine sq_plain rfl rfl rfl (w_move rfl (ev_tmp rfl)) ?_
  refine sq_plain rfl rfl rfl (w_alen 0 rfl Try.underlying53 (ev_tmp rfl) rfl) ?_
  refine sq_plain rfl rfl rfl (w_gtr rfl (ev_tmp rfl) ev_ci) ?_
  refine sq_plain rfl rfl rfl (w_move rfl (ev_tmp rfl)) ?_
  refine sq_grd rfl rfl (guard_t rfl rfl rfl) (fun hc => w_move rfl (ev_tmp rfl)) ?_
  refine sq_gcase rfl rfl (guard_t rfl rfl rfl) ?_ ?_
  · intro gh20
    refine sq_callG [1] rfl rfl rfl rfl Try.call170 rfl (curOne_own _ _ hcode _ _ (by omega) (by omega)) (evl_cons (ev_whn rfl gh20) (evl_cons ev_ci evl_nil)) rfl ?_
    intro x20 ok20
    refine sq_plain rfl rfl rfl (w_and rfl (ev_tmp rfl) (evif (ev_tmp rfl))) ?_
    refine sq_nil ?_
    refine awp_cond (ev_tmp rfl) ?_ ?_
    · intro h21
      refine awp_seq ?_
      refine awp_region ?_
      refine sq_plain rfl rfl rfl (w_move rfl (ev_tmp rfl)) ?_
      refine sq_plain rfl rfl rfl (w_move rfl (ev_tmp rfl)) ?_
      refine sq_plain rfl rfl rfl (w_alen 1 rfl Try.underlying53 (ev_tmp rfl) rfl) ?_
      refine sq_callG [0] rfl rfl rfl rfl Try.call131 rfl (curPick_own _ _ hcode _ _ (by rw [hrl]; omega) (by omega)) (evl_cons (ev_tmp rfl) (evl_cons (ev_tmp rfl) evl_nil)) rfl ?_
      intro x25 ok25
      rw [hrl] at ok25 gh20
      have hl0 : 0 < (l.length : Int) := (by first | exact of_decide_eq_true gh20 | (exfalso; rw [hrl, gh20] at h21; cases h21))
      obtain ⟨k, hk⟩ : ∃ k : Nat, x25.2 = k := ⟨x25.2.toNat, by omega⟩
      have hkl : k < l.length := by omega
      obtain ⟨cc, hc⟩ := get_some hkl
      obtain ⟨y, hy⟩ := get_some (show k < x14.2.length by omega)
      have hcz := sizeL_get (f := TCell.size) hc
      rw [hk]
      have hA := nrows_tlen (ocs := TCell.ocs) hc hy
      refine sq_plain rfl rfl rfl (w_assign rfl (ev_tmp rfl)) ?_
      refine sq_nil ?_
      refine awp_seq ?_
      refine awp_region ?_
      refine sq_plain rfl rfl rfl (w_move rfl (ev_tmp rfl)) ?_
      refine sq_callG [0] rfl rfl rfl rfl Try.call131 rfl (curPick_own _ _ hcode _ _ (by omega) (by omega)) (evl_cons (ev_tmp rfl) (evl_cons ev_ci evl_nil)) rfl ?_
      intro x27 ok27
      refine sq_nil ?_
      refine awp_block ?_
      refine awp_seq ?_
      refine awp_region ?_
      refine sq_plain rfl rfl rfl (w_eql rfl (ev_tmp rfl) ev_ci) ?_
      refine sq_plain rfl rfl rfl (w_assign rfl (ev_tmp rfl)) ?_
      refine sq_nil ?_
      refine awp_cond (ev_tmp rfl) ?_ ?_
      · intro h42
        have k42 := eq_of_beqt h42; try simp only [List.length_map] at k42
        obtain ⟨l2, hl2⟩ : ∃ l2, l.set k ⟨[122, 122], cc.Vers⟩ = l2 := ⟨_, rfl⟩
        have hls2 : sizeL TCell.size l2 ≤ 90000 := by (have h9 := sizeL_set (f := TCell.size) (x := ⟨[122, 122], cc.Vers⟩) (l := l) (k := k); rw [hl2] at h9; have h8 : TCell.size ⟨[122, 122], cc.Vers⟩ ≤ 2 + cc.size := by simp only [TCell.size, List.length_cons, List.length_nil]; omega); omega
        have hq : ∀ own : List Go.AV.Own, (∀ o ∈ nin TCell.ow l x14.2, o ∈ own) → LendE own (nrows TCell.ocs (l.take k) (x14.2.take k) ++ [AV.str [122, 122], AV.is y] :: nrows TCell.ocs (l.drop (k + 1)) (x14.2.drop (k + 1))) (l2.map TCell.cs) := fun own hm => hl2 ▸ lendE_put ok14 hc hy hm (TCell.lcM ⟨[122, 122], cc.Vers⟩ y fun o ho => hm o (nin_mem hc hy o ho))
        rw [nrows_split hc hy]
        refine awp_region ?_
        refine sq_plain rfl rfl rfl (w_move rfl (ev_tmp rfl)) ?_
        refine sq_plain rfl rfl rfl (w_move rfl (ev_tmp rfl)) ?_
        refine sq_plain rfl rfl rfl (w_aidx 1 rfl Try.underlying53 Try.sizeOf153 (ev_tmp rfl) rfl (ev_tmp rfl) (by omega) (by first | omega | (rw [List.length_append, List.length_cons]; omega))) ?_
        refine sq_plain rfl rfl rfl (w_fldX 1 rfl Try.underlying153 rfl Try.sizeOf9 (ev_tmp rfl) rfl rfl (app_get hA)) ?_
        refine sq_storeXA 1 rfl rfl rfl (ev_tmp rfl) (ev_cs' (l := [122, 122]) rfl) (as_str _) rfl Try.sizeOf9 hA rfl ?_
        refine sq_nil ?_
        refine awp_seq ?_
        refine awp_region ?_
        refine sq_le (le_sealT 2 1 (.arr x14.1 153 2 (l2.map TCell.cs)) rfl (⟨rfl, rfl, rfl, hq _ (fun _ ho => ho)⟩) gin_nil) ?_
        refine sq_plain rfl rfl rfl (w_move rfl (ev_tmp rfl)) ?_
        refine sq_plain rfl rfl rfl (w_move rfl (ev_tmp rfl)) ?_
        refine sq_plain rfl rfl rfl (w_assign rfl (ev_tmp rfl)) ?_
        refine sq_le (le_sealD [1] 54 rfl rfl (lt_arr (List.mem_of_getElem? (i := 0) rfl) le_refl_e) gin_nil) ?_
        refine sq_plain rfl rfl rfl (w_assign rfl (ev_tmp rfl)) ?_
        refine sq_nil ?_
        refine awp_ret ?_
        (refine retG [] ((l, l2)) ?_ rfl (by first | (dsimp only; rfl) | rfl) (resN rfl (by decide) (rv_cons (rv_tmp' rfl (by rfl)) (rv_cons (rv_tmp' rfl (by rfl)) rv_nil))); exact ⟨hls, hls2⟩)
      · intro h42
        have k42 := ne_of_beqf h42; try simp only [List.length_map] at k42
        refine awp_seq ?_
        refine awp_region ?_
        refine sq_plain rfl rfl rfl (w_eql rfl (ev_tmp rfl) ev_ci) ?_
        refine sq_plain rfl rfl rfl (w_assign rfl (ev_tmp rfl)) ?_
        refine sq_nil ?_
        refine awp_cond (ev_tmp rfl) ?_ ?_
        · intro h48
          have k48 := eq_of_beqt h48; try simp only [List.length_map] at k48
          obtain ⟨l2, hl2⟩ : ∃ l2, l.take k = l2 := ⟨_, rfl⟩
          have hls2 : sizeL TCell.size l2 ≤ 90000 := by (have h9 := take_size (f := TCell.size) (l := l) (n := k); rw [hl2] at h9; omega)
          have hq : ∀ own : List Go.AV.Own, (∀ o ∈ nin TCell.ow l x14.2, o ∈ own) → LendE own ((nrows TCell.ocs l x14.2).take k) (l2.map TCell.cs) := fun own hm => hl2 ▸ lendE_take (nin_lendE TCell.lcM ok14 hm)
          refine awp_region ?_
          refine sq_plain rfl rfl rfl (w_move rfl (ev_tmp rfl)) ?_
          refine sq_plain rfl rfl rfl (w_move rfl (ev_tmp rfl)) ?_
          refine sq_ahi 1 rfl rfl rfl rfl Try.underlying53 Try.sizeOf153 (ev_tmp rfl) rfl (ev_tmp rfl) (by first | omega | ((try simp only [List.length_map, List.length_take, List.length_cons, List.length_nil, chunks_len, szR] at *); omega) | (have hc2 := hc; simp only [Bool.and_eq_true, Bool.or_eq_true, Bool.or_eq_false_iff, Bool.and_eq_false_iff, Bool.not_eq_true', Bool.not_eq_false', decide_eq_true_eq, decide_eq_false_iff_not, beq_iff_eq, bne_iff_ne, List.length_map, List.length_take] at hc2; omega)) (by first | omega | ((try simp only [List.length_map, List.length_take, List.length_cons, List.length_nil, chunks_len, szR] at *); omega) | (have hc2 := hc; simp only [Bool.and_eq_true, Bool.or_eq_true, Bool.or_eq_false_iff, Bool.and_eq_false_iff, Bool.not_eq_true', Bool.not_eq_false', decide_eq_true_eq, decide_eq_false_iff_not, beq_iff_eq, bne_iff_ne, List.length_map, List.length_take] at hc2; omega)) ?_
          intro v52_1
          refine sq_plain rfl rfl rfl (w_assign rfl (ev_tmp rfl)) ?_
          refine sq_nil ?_
          refine awp_seq ?_
          refine awp_region ?_
          refine sq_le (le_sealT 2 1 (.arr v52_1 153 2 (l2.map TCell.cs)) rfl (⟨rfl, rfl, rfl, hq _ (fun _ ho => ho)⟩) gin_nil) ?_
          refine sq_plain rfl rfl rfl (w_move rfl (ev_tmp rfl)) ?_
          refine sq_plain rfl rfl rfl (w_move rfl (ev_tmp rfl)) ?_
          refine sq_plain rfl rfl rfl (w_assign rfl (ev_tmp rfl)) ?_
          refine sq_le (le_sealD [1] 54 rfl rfl (lt_arr (List.mem_of_getElem? (i := 0) rfl) le_refl_e) gin_nil) ?_
          refine sq_plain rfl rfl rfl (w_assign rfl (ev_tmp rfl)) ?_
          refine sq_nil ?_
          refine awp_ret ?_
          (refine retG [] ((l, l2)) ?_ rfl (by first | (dsimp only; rfl) | rfl) (resN rfl (by decide) (rv_cons (rv_tmp' rfl (by rfl)) (rv_cons (rv_tmp' rfl (by rfl)) rv_nil))); exact ⟨hls, hls2⟩)
        · intro h48
          have k48 := ne_of_beqf h48; try simp only [List.length_map] at k48
          have hng : List.Perm (nin TCell.ow l x14.2) ([Go.AV.Own.arr y 155 3 (cc.Vers.map TVer.cs)] ++ nin TCell.ow (l.eraseIdx k) (x14.2.eraseIdx k)) := nin_get (ow := TCell.ow) hc hy
          rw [nrows_split hc hy]
          refine awp_own (by first | (simp only [List.singleton_append, pick, List.eraseIdx_cons_zero, List.eraseIdx_cons_succ, List.set_cons_zero, List.set_cons_succ, List.cons_append, List.nil_append, List.getElem?_cons_zero, List.getElem?_cons_succ, List.append_nil, List.take_succ_cons, List.take_zero, List.drop_succ_cons, List.drop_zero]; exact rfl) | exact rfl) ?_
          refine AWP.le (le_tail 2 (t := ([Go.AV.Own.arr y 155 3 (cc.Vers.map TVer.cs)]) ++ (nin TCell.ow (l.eraseIdx k) (x14.2.eraseIdx k))) (hng)) ?_
          refine awp_seq ?_
          refine awp_region ?_
          refine sq_plain rfl rfl rfl (w_move rfl (ev_tmp rfl)) ?_
          refine sq_plain rfl rfl rfl (w_move rfl (ev_tmp rfl)) ?_
          refine sq_plain rfl rfl rfl (w_aidx 1 rfl Try.underlying53 Try.sizeOf153 (ev_tmp rfl) rfl (ev_tmp rfl) (by omega) (by first | omega | (rw [List.length_append, List.length_cons]; omega))) ?_
          refine sq_plain rfl rfl rfl (w_fldX 1 rfl Try.underlying153 rfl Try.sizeOf151 (ev_tmp rfl) rfl rfl (app_get hA)) ?_
          refine sq_plain rfl rfl rfl (w_loadXf 1 rfl (ev_tmp rfl) rfl Try.isAgg151 (app_get hA) rfl) ?_
          refine sq_plain rfl rfl rfl (w_alen 2 rfl Try.underlying151 (ev_tmp rfl) rfl) ?_
          refine sq_plain rfl rfl rfl (w_gtr rfl (ev_tmp rfl) ev_ci) ?_
          refine sq_nil ?_
          refine awp_cond (ev_tmp rfl) ?_ ?_
          · intro h34
            have k34 := of_decide_eq_true h34; try simp only [List.length_map] at k34
            obtain ⟨ck, u, us, hcc⟩ : ∃ ck u us, cc = ⟨ck, u :: us⟩ := by (cases cc with | mk ck vs => cases vs with | nil => simp at k34 | cons u us => exact ⟨ck, u, us, rfl⟩)
            subst hcc
            obtain ⟨l2, hl2⟩ : ∃ l2, l.set k ⟨ck, ⟨u.Time, [110, 101, 119], u.Gone⟩ :: us⟩ = l2 := ⟨_, rfl⟩
            have hls2 : sizeL TCell.size l2 ≤ 90000 := by (have h9 := sizeL_set (f := TCell.size) (x := ⟨ck, ⟨u.Time, [110, 101, 119], u.Gone⟩ :: us⟩) (l := l) (k := k); rw [hl2] at h9; have h8 : TCell.size ⟨ck, ⟨u.Time, [110, 101, 119], u.Gone⟩ :: us⟩ ≤ 3 + TCell.size ⟨ck, u :: us⟩ := by simp only [TCell.size, sizeL_cons, TVer.size, List.length_cons, List.length_nil]; omega); omega
            have hl2k : l2[k]? = some ⟨ck, ⟨u.Time, [110, 101, 119], u.Gone⟩ :: us⟩ := by rw [← hl2]; exact List.getElem?_set_self hkl
            have hq : ∀ own : List Go.AV.Own, (∀ o ∈ nin TCell.ow l2 x14.2, o ∈ own) → LendE own (nrows TCell.ocs (l.take k) (x14.2.take k) ++ TCell.ocs ⟨ck, u :: us⟩ y :: nrows TCell.ocs (l.drop (k + 1)) (x14.2.drop (k + 1))) (l2.map TCell.cs) := fun own hm => (by rw [show nrows TCell.ocs (l.take k) (x14.2.take k) ++ TCell.ocs ⟨ck, u :: us⟩ y :: nrows TCell.ocs (l.drop (k + 1)) (x14.2.drop (k + 1)) = nrows TCell.ocs l2 x14.2 from hl2 ▸ nrows_join (p' := ⟨ck, ⟨u.Time, [110, 101, 119], u.Gone⟩ :: us⟩) hc hy]; exact nin_lendE TCell.lcM (by rw [← hl2, List.length_set]; exact ok14) hm)
            have hpm := nin_set (ow := TCell.ow) (p' := ⟨ck, ⟨u.Time, [110, 101, 119], u.Gone⟩ :: us⟩) hc hy
            rw [hl2] at hpm
            refine awp_own (congrArg (fun z => _ :: _ :: Go.AV.Own.arr y 155 3 z :: _) (show List.map TVer.cs (u :: us) = [] ++ TVer.cs u :: us.map TVer.cs from rfl)) ?_
            refine awp_region ?_
            refine sq_plain rfl rfl rfl (w_move rfl (ev_tmp rfl)) ?_
            refine sq_plain rfl rfl rfl (w_move rfl (ev_tmp rfl)) ?_
            refine sq_plain rfl rfl rfl (w_aidx 1 rfl Try.underlying53 Try.sizeOf153 (ev_tmp rfl) rfl (ev_tmp rfl) (by omega) (by first | omega | (rw [List.length_append, List.length_cons]; omega))) ?_
            refine sq_plain rfl rfl rfl (w_fldX 1 rfl Try.underlying153 rfl Try.sizeOf151 (ev_tmp rfl) rfl rfl (app_get hA)) ?_
            refine sq_plain rfl rfl rfl (w_loadXf 1 rfl (ev_tmp rfl) rfl Try.isAgg151 (app_get hA) rfl) ?_
            refine sq_plain rfl rfl rfl (w_aidx 2 rfl Try.underlying151 Try.sizeOf155 (ev_tmp rfl) rfl ev_ci (by omega) (by first | omega | (rw [List.length_append, List.length_cons]; omega))) ?_
            refine sq_plain rfl rfl rfl (w_fldX 2 rfl Try.underlying155 rfl Try.sizeOf9 (ev_tmp rfl) rfl rfl (app_get rfl)) ?_
            refine sq_storeXA 2 rfl rfl rfl (ev_tmp rfl) (ev_cs' (l := [110, 101, 119]) rfl) (as_str _) rfl Try.sizeOf9 rfl rfl ?_
            refine sq_nil ?_
            refine awp_seq ?_
            refine AWP.le (le_pick [0, 0, 0] rfl) ?_
            refine AWP.le (le_tail 2 (t := nin TCell.ow l2 x14.2) (hpm)) ?_
            refine awp_region ?_
            refine sq_le (le_sealT 2 1 (.arr x14.1 153 2 (l2.map TCell.cs)) rfl (⟨rfl, rfl, rfl, hq _ (fun _ ho => ho)⟩) gin_nil) ?_
            refine sq_plain rfl rfl rfl (w_move rfl (ev_tmp rfl)) ?_
            refine sq_plain rfl rfl rfl (w_move rfl (ev_tmp rfl)) ?_
            refine sq_plain rfl rfl rfl (w_assign rfl (ev_tmp rfl)) ?_
            refine sq_le (le_sealD [1] 54 rfl rfl (lt_arr (List.mem_of_getElem? (i := 0) rfl) le_refl_e) gin_nil) ?_
            refine sq_plain rfl rfl rfl (w_assign rfl (ev_tmp rfl)) ?_
            refine sq_nil ?_
            refine awp_ret ?_
            (refine retG [] ((l, l2)) ?_ rfl (by first | (dsimp only; rfl) | rfl) (resN rfl (by decide) (rv_cons (rv_tmp' rfl (by rfl)) (rv_cons (rv_tmp' rfl (by rfl)) rv_nil))); exact ⟨hls, hls2⟩)
          · intro h34
            have k34 := of_decide_eq_false h34; try simp only [List.length_map] at k34
            obtain ⟨l2, hl2⟩ : ∃ l2, l.set k cc = l2 := ⟨_, rfl⟩
            have hls2 : sizeL TCell.size l2 ≤ 90000 := by (have h9 := sizeL_set (f := TCell.size) (x := cc) (l := l) (k := k); rw [hl2] at h9; omega)
            have hq : ∀ own : List Go.AV.Own, (∀ o ∈ nin TCell.ow l2 x14.2, o ∈ own) → LendE own (nrows TCell.ocs (l.take k) (x14.2.take k) ++ TCell.ocs cc y :: nrows TCell.ocs (l.drop (k + 1)) (x14.2.drop (k + 1))) (l2.map TCell.cs) := fun own hm => (by rw [show nrows TCell.ocs (l.take k) (x14.2.take k) ++ TCell.ocs cc y :: nrows TCell.ocs (l.drop (k + 1)) (x14.2.drop (k + 1)) = nrows TCell.ocs l2 x14.2 from hl2 ▸ nrows_join (p' := cc) hc hy]; exact nin_lendE TCell.lcM (by rw [← hl2, List.length_set]; exact ok14) hm)
            have hpm := nin_set (ow := TCell.ow) (p' := cc) hc hy
            rw [hl2] at hpm
            refine awp_skip ?_
            refine awp_seq ?_
            refine AWP.le (le_pick [0, 0, 0] rfl) ?_
            refine AWP.le (le_tail 2 (t := nin TCell.ow l2 x14.2) (hpm)) ?_
            refine awp_region ?_
            refine sq_le (le_sealT 2 1 (.arr x14.1 153 2 (l2.map TCell.cs)) rfl (⟨rfl, rfl, rfl, hq _ (fun _ ho => ho)⟩) gin_nil) ?_
            refine sq_plain rfl rfl rfl (w_move rfl (ev_tmp rfl)) ?_
            refine sq_plain rfl rfl rfl (w_move rfl (ev_tmp rfl)) ?_
            refine sq_plain rfl rfl rfl (w_assign rfl (ev_tmp rfl)) ?_
            refine sq_le (le_sealD [1] 54 rfl rfl (lt_arr (List.mem_of_getElem? (i := 0) rfl) le_refl_e) gin_nil) ?_
            refine sq_plain rfl rfl rfl (w_assign rfl (ev_tmp rfl)) ?_
            refine sq_nil ?_
            refine awp_ret ?_
            (refine retG [] ((l, l2)) ?_ rfl (by first | (dsimp only; rfl) | rfl) (resN rfl (by decide) (rv_cons (rv_tmp' rfl (by rfl)) (rv_cons (rv_tmp' rfl (by rfl)) rv_nil))); exact ⟨hls, hls2⟩)
    · intro h21
      obtain ⟨l2, hl2⟩ : ∃ l2, l = l2 := ⟨_, rfl⟩
      have hls2 : sizeL TCell.size l2 ≤ 90000 := by (rw [← hl2]; omega)
      have hq : ∀ own : List Go.AV.Own, (∀ o ∈ nin TCell.ow l x14.2, o ∈ own) → LendE own (nrows TCell.ocs l x14.2) (l2.map TCell.cs) := fun own hm => hl2 ▸ nin_lendE TCell.lcM ok14 hm
      refine awp_skip ?_
      refine awp_seq ?_
      refine awp_region ?_
      refine sq_le (le_sealT 2 1 (.arr x14.1 153 2 (l2.map TCell.cs)) rfl (⟨rfl, rfl, rfl, hq _ (fun _ ho => ho)⟩) gin_nil) ?_
      refine sq_plain rfl rfl rfl (w_move rfl (ev_tmp rfl)) ?_
      refine sq_plain rfl rfl rfl (w_move rfl (ev_tmp rfl)) ?_
      refine sq_plain rfl rfl rfl (w_assign rfl (ev_tmp rfl)) ?_
      refine sq_le (le_sealD [1] 54 rfl rfl (lt_arr (List.mem_of_getElem? (i := 0) rfl) le_refl_e) gin_nil) ?_
      refine sq_plain rfl rfl rfl (w_assign rfl (ev_tmp rfl)) ?_
      refine sq_nil ?_
      refine awp_ret ?_
      (refine retG [] ((l, l2)) ?_ rfl (by first | (dsimp only; rfl) | rfl) (resN rfl (by decide) (rv_cons (rv_tmp' rfl (by rfl)) (rv_cons (rv_tmp' rfl (by rfl)) rv_nil))); exact ⟨hls, hls2⟩)
  · intro gh20
    refine sq_plain rfl rfl rfl (w_and rfl (ev_tmp rfl) (evif_no (x := AV.bool false) gh20)) ?_
    refine sq_nil ?_
    refine awp_cond (ev_tmp rfl) ?_ ?_
    · intro h21
      refine awp_seq ?_
      refine awp_region ?_
      refine sq_plain rfl rfl rfl (w_move rfl (ev_tmp rfl)) ?_
      refine sq_plain rfl rfl rfl (w_move rfl (ev_tmp rfl)) ?_
      refine sq_plain rfl rfl rfl (w_alen 0 rfl Try.underlying53 (ev_tmp rfl) rfl) ?_
      refine sq_callG [1] rfl rfl rfl rfl Try.call131 rfl (curPick_own _ _ hcode _ _ (by rw [hrl]; omega) (by omega)) (evl_cons (ev_tmp rfl) (evl_cons (ev_tmp rfl) evl_nil)) rfl ?_
      intro x25 ok25
      rw [hrl] at ok25 gh20
      have hl0 : 0 < (l.length : Int) := (by first | exact of_decide_eq_true gh20 | (exfalso; rw [hrl, gh20] at h21; cases h21))
      obtain ⟨k, hk⟩ : ∃ k : Nat, x25.2 = k := ⟨x25.2.toNat, by omega⟩
      have hkl : k < l.length := by omega
      obtain ⟨cc, hc⟩ := get_some hkl
      obtain ⟨y, hy⟩ := get_some (show k < x14.2.length by omega)
      have hcz := sizeL_get (f := TCell.size) hc
      rw [hk]
      have hA := nrows_tlen (ocs := TCell.ocs) hc hy
      refine sq_plain rfl rfl rfl (w_assign rfl (ev_tmp rfl)) ?_
      refine sq_nil ?_
      refine awp_seq ?_
      refine awp_region ?_
      refine sq_plain rfl rfl rfl (w_move rfl (ev_tmp rfl)) ?_
      refine sq_callG [0] rfl rfl rfl rfl Try.call131 rfl (curPick_own _ _ hcode _ _ (by omega) (by omega)) (evl_cons (ev_tmp rfl) (evl_cons ev_ci evl_nil)) rfl ?_
      intro x27 ok27
      refine sq_nil ?_
      refine awp_block ?_
      refine awp_seq ?_
      refine awp_region ?_
      refine sq_plain rfl rfl rfl (w_eql rfl (ev_tmp rfl) ev_ci) ?_
      refine sq_plain rfl rfl rfl (w_assign rfl (ev_tmp rfl)) ?_
      refine sq_nil ?_
      refine awp_cond (ev_tmp rfl) ?_ ?_
      · intro h42
        have k42 := eq_of_beqt h42; try simp only [List.length_map] at k42
        obtain ⟨l2, hl2⟩ : ∃ l2, l.set k ⟨[122, 122], cc.Vers⟩ = l2 := ⟨_, rfl⟩
        have hls2 : sizeL TCell.size l2 ≤ 90000 := by (have h9 := sizeL_set (f := TCell.size) (x := ⟨[122, 122], cc.Vers⟩) (l := l) (k := k); rw [hl2] at h9; have h8 : TCell.size ⟨[122, 122], cc.Vers⟩ ≤ 2 + cc.size := by simp only [TCell.size, List.length_cons, List.length_nil]; omega); omega
        have hq : ∀ own : List Go.AV.Own, (∀ o ∈ nin TCell.ow l x14.2, o ∈ own) → LendE own (nrows TCell.ocs (l.take k) (x14.2.take k) ++ [AV.str [122, 122], AV.is y] :: nrows TCell.ocs (l.drop (k + 1)) (x14.2.drop (k + 1))) (l2.map TCell.cs) := fun own hm => hl2 ▸ lendE_put ok14 hc hy hm (TCell.lcM ⟨[122, 122], cc.Vers⟩ y fun o ho => hm o (nin_mem hc hy o ho))
        rw [nrows_split hc hy]
        refine awp_region ?_
        refine sq_plain rfl rfl rfl (w_move rfl (ev_tmp rfl)) ?_
        refine sq_plain rfl rfl rfl (w_move rfl (ev_tmp rfl)) ?_
        refine sq_plain rfl rfl rfl (w_aidx 1 rfl Try.underlying53 Try.sizeOf153 (ev_tmp rfl) rfl (ev_tmp rfl) (by omega) (by first | omega | (rw [List.length_append, List.length_cons]; omega))) ?_
        refine sq_plain rfl rfl rfl (w_fldX 1 rfl Try.underlying153 rfl Try.sizeOf9 (ev_tmp rfl) rfl rfl (app_get hA)) ?_
        refine sq_storeXA 1 rfl rfl rfl (ev_tmp rfl) (ev_cs' (l := [122, 122]) rfl) (as_str _) rfl Try.sizeOf9 hA rfl ?_
        refine sq_nil ?_
        refine awp_seq ?_
        refine awp_region ?_
        refine sq_le (le_sealT 2 1 (.arr x14.1 153 2 (l2.map TCell.cs)) rfl (⟨rfl, rfl, rfl, hq _ (fun _ ho => ho)⟩) gin_nil) ?_
        refine sq_plain rfl rfl rfl (w_move rfl (ev_tmp rfl)) ?_
        refine sq_plain rfl rfl rfl (w_move rfl (ev_tmp rfl)) ?_
        refine sq_plain rfl rfl rfl (w_assign rfl (ev_tmp rfl)) ?_
        refine sq_le (le_sealD [1] 54 rfl rfl (lt_arr (List.mem_of_getElem? (i := 0) rfl) le_refl_e) gin_nil) ?_
        refine sq_plain rfl rfl rfl (w_assign rfl (ev_tmp rfl)) ?_
        refine sq_nil ?_
        refine awp_ret ?_
        (refine retG [] ((l, l2)) ?_ rfl (by first | (dsimp only; rfl) | rfl) (resN rfl (by decide) (rv_cons (rv_tmp' rfl (by rfl)) (rv_cons (rv_tmp' rfl (by rfl)) rv_nil))); exact ⟨hls, hls2⟩)
      · intro h42
        have k42 := ne_of_beqf h42; try simp only [List.length_map] at k42
        refine awp_seq ?_
        refine awp_region ?_
        refine sq_plain rfl rfl rfl (w_eql rfl (ev_tmp rfl) ev_ci) ?_
        refine sq_plain rfl rfl rfl (w_assign rfl (ev_tmp rfl)) ?_
        refine sq_nil ?_
        refine awp_cond (ev_tmp rfl) ?_ ?_
        · intro h48
          have k48 := eq_of_beqt h48; try simp only [List.length_map] at k48
          obtain ⟨l2, hl2⟩ : ∃ l2, l.take k = l2 := ⟨_, rfl⟩
          have hls2 : sizeL TCell.size l2 ≤ 90000 := by (have h9 := take_size (f := TCell.size) (l := l) (n := k); rw [hl2] at h9; omega)
          have hq : ∀ own : List Go.AV.Own, (∀ o ∈ nin TCell.ow l x14.2, o ∈ own) → LendE own ((nrows TCell.ocs l x14.2).take k) (l2.map TCell.cs) := fun own hm => hl2 ▸ lendE_take (nin_lendE TCell.lcM ok14 hm)
          refine awp_region ?_
          refine sq_plain rfl rfl rfl (w_move rfl (ev_tmp rfl)) ?_
          refine sq_plain rfl rfl rfl (w_move rfl (ev_tmp rfl)) ?_
          refine sq_ahi 1 rfl rfl rfl rfl Try.underlying53 Try.sizeOf153 (ev_tmp rfl) rfl (ev_tmp rfl) (by first | omega | ((try simp only [List.length_map, List.length_take, List.length_cons, List.length_nil, chunks_len, szR] at *); omega) | (have hc2 := hc; simp only [Bool.and_eq_true, Bool.or_eq_true, Bool.or_eq_false_iff, Bool.and_eq_false_iff, Bool.not_eq_true', Bool.not_eq_false', decide_eq_true_eq, decide_eq_false_iff_not, beq_iff_eq, bne_iff_ne, List.length_map, List.length_take] at hc2; omega)) (by first | omega | ((try simp only [List.length_map, List.length_take, List.length_cons, List.length_nil, chunks_len, szR] at *); omega) | (have hc2 := hc; simp only [Bool.and_eq_true, Bool.or_eq_true, Bool.or_eq_false_iff, Bool.and_eq_false_iff, Bool.not_eq_true', Bool.not_eq_false', decide_eq_true_eq, decide_eq_false_iff_not, beq_iff_eq, bne_iff_ne, List.length_map, List.length_take] at hc2; omega)) ?_
          intro v52_2
          refine sq_plain rfl rfl rfl (w_assign rfl (ev_tmp rfl)) ?_
          refine sq_nil ?_
          refine awp_seq ?_
          refine awp_region ?_
          refine sq_le (le_sealT 2 1 (.arr v52_2 153 2 (l2.map TCell.cs)) rfl (⟨rfl, rfl, rfl, hq _ (fun _ ho => ho)⟩) gin_nil) ?_
          refine sq_plain rfl rfl rfl (w_move rfl (ev_tmp rfl)) ?_
          refine sq_plain rfl rfl rfl (w_move rfl (ev_tmp rfl)) ?_
          refine sq_plain rfl rfl rfl (w_assign rfl (ev_tmp rfl)) ?_
          refine sq_le (le_sealD [1] 54 rfl rfl (lt_arr (List.mem_of_getElem? (i := 0) rfl) le_refl_e) gin_nil) ?_
          refine sq_plain rfl rfl rfl (w_assign rfl (ev_tmp rfl)) ?_
          refine sq_nil ?_
          refine awp_ret ?_
          (refine retG [] ((l, l2)) ?_ rfl (by first | (dsimp only; rfl) | rfl) (resN rfl (by decide) (rv_cons (rv_tmp' rfl (by rfl)) (rv_cons (rv_tmp' rfl (by rfl)) rv_nil))); exact ⟨hls, hls2⟩)
        · intro h48
          have k48 := ne_of_beqf h48; try simp only [List.length_map] at k48
          have hng : List.Perm (nin TCell.ow l x14.2) ([Go.AV.Own.arr y 155 3 (cc.Vers.map TVer.cs)] ++ nin TCell.ow (l.eraseIdx k) (x14.2.eraseIdx k)) := nin_get (ow := TCell.ow) hc hy
          rw [nrows_split hc hy]
          refine awp_own (by first | (simp only [List.singleton_append, pick, List.eraseIdx_cons_zero, List.eraseIdx_cons_succ, List.set_cons_zero, List.set_cons_succ, List.cons_append, List.nil_append, List.getElem?_cons_zero, List.getElem?_cons_succ, List.append_nil, List.take_succ_cons, List.take_zero, List.drop_succ_cons, List.drop_zero]; exact rfl) | exact rfl) ?_
          refine AWP.le (le_tail 2 (t := ([Go.AV.Own.arr y 155 3 (cc.Vers.map TVer.cs)]) ++ (nin TCell.ow (l.eraseIdx k) (x14.2.eraseIdx k))) (hng)) ?_
          refine awp_seq ?_
          refine awp_region ?_
          refine sq_plain rfl rfl rfl (w_move rfl (ev_tmp rfl)) ?_
          refine sq_plain rfl rfl rfl (w_move rfl (ev_tmp rfl)) ?_
          refine sq_plain rfl rfl rfl (w_aidx 1 rfl Try.underlying53 Try.sizeOf153 (ev_tmp rfl) rfl (ev_tmp rfl) (by omega) (by first | omega | (rw [List.length_append, List.length_cons]; omega))) ?_
          refine sq_plain rfl rfl rfl (w_fldX 1 rfl Try.underlying153 rfl Try.sizeOf151 (ev_tmp rfl) rfl rfl (app_get hA)) ?_
          refine sq_plain rfl rfl rfl (w_loadXf 1 rfl (ev_tmp rfl) rfl Try.isAgg151 (app_get hA) rfl) ?_
          refine sq_plain rfl rfl rfl (w_alen 2 rfl Try.underlying151 (ev_tmp rfl) rfl) ?_
          refine sq_plain rfl rfl rfl (w_gtr rfl (ev_tmp rfl) ev_ci) ?_
          refine sq_nil ?_
          refine awp_cond (ev_tmp rfl) ?_ ?_
          · intro h34
            have k34 := of_decide_eq_true h34; try simp only [List.length_map] at k34
            obtain ⟨ck, u, us, hcc⟩ : ∃ ck u us, cc = ⟨ck, u :: us⟩ := by (cases cc with | mk ck vs => cases vs with | nil => simp at k34 | cons u us => exact ⟨ck, u, us, rfl⟩)
            subst hcc
            obtain ⟨l2, hl2⟩ : ∃ l2, l.set k ⟨ck, ⟨u.Time, [110, 101, 119], u.Gone⟩ :: us⟩ = l2 := ⟨_, rfl⟩
            have hls2 : sizeL TCell.size l2 ≤ 90000 := by (have h9 := sizeL_set (f := TCell.size) (x := ⟨ck, ⟨u.Time, [110, 101, 119], u.Gone⟩ :: us⟩) (l := l) (k := k); rw [hl2] at h9; have h8 : TCell.size ⟨ck, ⟨u.Time, [110, 101, 119], u.Gone⟩ :: us⟩ ≤ 3 + TCell.size ⟨ck, u :: us⟩ := by simp only [TCell.size, sizeL_cons, TVer.size, List.length_cons, List.length_nil]; omega); omega
            have hl2k : l2[k]? = some ⟨ck, ⟨u.Time, [110, 101, 119], u.Gone⟩ :: us⟩ := by rw [← hl2]; exact List.getElem?_set_self hkl
            have hq : ∀ own : List Go.AV.Own, (∀ o ∈ nin TCell.ow l2 x14.2, o ∈ own) → LendE own (nrows TCell.ocs (l.take k) (x14.2.take k) ++ TCell.ocs ⟨ck, u :: us⟩ y :: nrows TCell.ocs (l.drop (k + 1)) (x14.2.drop (k + 1))) (l2.map TCell.cs) := fun own hm => (by rw [show nrows TCell.ocs (l.take k) (x14.2.take k) ++ TCell.ocs ⟨ck, u :: us⟩ y :: nrows TCell.ocs (l.drop (k + 1)) (x14.2.drop (k + 1)) = nrows TCell.ocs l2 x14.2 from hl2 ▸ nrows_join (p' := ⟨ck, ⟨u.Time, [110, 101, 119], u.Gone⟩ :: us⟩) hc hy]; exact nin_lendE TCell.lcM (by rw [← hl2, List.length_set]; exact ok14) hm)
            have hpm := nin_set (ow := TCell.ow) (p' := ⟨ck, ⟨u.Time, [110, 101, 119], u.Gone⟩ :: us⟩) hc hy
            rw [hl2] at hpm
            refine awp_own (congrArg (fun z => _ :: _ :: Go.AV.Own.arr y 155 3 z :: _) (show List.map TVer.cs (u :: us) = [] ++ TVer.cs u :: us.map TVer.cs from rfl)) ?_
            refine awp_region ?_
            refine sq_plain rfl rfl rfl (w_move rfl (ev_tmp rfl)) ?_
            refine sq_plain rfl rfl rfl (w_move rfl (ev_tmp rfl)) ?_
            refine sq_plain rfl rfl rfl (w_aidx 1 rfl Try.underlying53 Try.sizeOf153 (ev_tmp rfl) rfl (ev_tmp rfl) (by omega) (by first | omega | (rw [List.length_append, List.length_cons]; omega))) ?_
            refine sq_plain rfl rfl rfl (w_fldX 1 rfl Try.underlying153 rfl Try.sizeOf151 (ev_tmp rfl) rfl rfl (app_get hA)) ?_
            refine sq_plain rfl rfl rfl (w_loadXf 1 rfl (ev_tmp rfl) rfl Try.isAgg151 (app_get hA) rfl) ?_
            refine sq_plain rfl rfl rfl (w_aidx 2 rfl Try.underlying151 Try.sizeOf155 (ev_tmp rfl) rfl ev_ci (by omega) (by first | omega | (rw [List.length_append, List.length_cons]; omega))) ?_
            refine sq_plain rfl rfl rfl (w_fldX 2 rfl Try.underlying155 rfl Try.sizeOf9 (ev_tmp rfl) rfl rfl (app_get rfl)) ?_
            refine sq_storeXA 2 rfl rfl rfl (ev_tmp rfl) (ev_cs' (l := [110, 101, 119]) rfl) (as_str _) rfl Try.sizeOf9 rfl rfl ?_
            refine sq_nil ?_
            refine awp_seq ?_
            refine AWP.le (le_pick [0, 0, 0] rfl) ?_
            refine AWP.le (le_tail 2 (t := nin TCell.ow l2 x14.2) (hpm)) ?_
            refine awp_region ?_
            refine sq_le (le_sealT 2 1 (.arr x14.1 153 2 (l2.map TCell.cs)) rfl (⟨rfl, rfl, rfl, hq _ (fun _ ho => ho)⟩) gin_nil) ?_
            refine sq_plain rfl rfl rfl (w_move rfl (ev_tmp rfl)) ?_
            refine sq_plain rfl rfl rfl (w_move rfl (ev_tmp rfl)) ?_
            refine sq_plain rfl rfl rfl (w_assign rfl (ev_tmp rfl)) ?_
            refine sq_le (le_sealD [1] 54 rfl rfl (lt_arr (List.mem_of_getElem? (i := 0) rfl) le_refl_e) gin_nil) ?_
            refine sq_plain rfl rfl rfl (w_assign rfl (ev_tmp rfl)) ?_
            refine sq_nil ?_
            refine awp_ret ?_
            (refine retG [] ((l, l2)) ?_ rfl (by first | (dsimp only; rfl) | rfl) (resN rfl (by decide) (rv_cons (rv_tmp' rfl (by rfl)) (rv_cons (rv_tmp' rfl (by rfl)) rv_nil))); exact ⟨hls, hls2⟩)
          · intro h34
            have k34 := of_decide_eq_false h34; try simp only [List.length_map] at k34
            obtain ⟨l2, hl2⟩ : ∃ l2, l.set k cc = l2 := ⟨_, rfl⟩
            have hls2 : sizeL TCell.size l2 ≤ 90000 := by (have h9 := sizeL_set (f := TCell.size) (x := cc) (l := l) (k := k); rw [hl2] at h9; omega)
            have hq : ∀ own : List Go.AV.Own, (∀ o ∈ nin TCell.ow l2 x14.2, o ∈ own) → LendE own (nrows TCell.ocs (l.take k) (x14.2.take k) ++ TCell.ocs cc y :: nrows TCell.ocs (l.drop (k + 1)) (x14.2.drop (k + 1))) (l2.map TCell.cs) := fun own hm => (by rw [show nrows TCell.ocs (l.take k) (x14.2.take k) ++ TCell.ocs cc y :: nrows TCell.ocs (l.drop (k + 1)) (x14.2.drop (k + 1)) = nrows TCell.ocs l2 x14.2 from hl2 ▸ nrows_join (p' := cc) hc hy]; exact nin_lendE TCell.lcM (by rw [← hl2, List.length_set]; exact ok14) hm)
            have hpm := nin_set (ow := TCell.ow) (p' := cc) hc hy
            rw [hl2] at hpm
            refine awp_skip ?_
            refine awp_seq ?_
            refine AWP.le (le_pick [0, 0, 0] rfl) ?_
            refine AWP.le (le_tail 2 (t := nin TCell.ow l2 x14.2) (hpm)) ?_
            refine awp_region ?_
            refine sq_le (le_sealT 2 1 (.arr x14.1 153 2 (l2.map TCell.cs)) rfl (⟨rfl, rfl, rfl, hq _ (fun _ ho => ho)⟩) gin_nil) ?_
            refine sq_plain rfl rfl rfl (w_move rfl (ev_tmp rfl)) ?_
            refine sq_plain rfl rfl rfl (w_move rfl (ev_tmp rfl)) ?_
            refine sq_plain rfl rfl rfl (w_assign rfl (ev_tmp rfl)) ?_
            refine sq_le (le_sealD [1] 54 rfl rfl (lt_arr (List.mem_of_getElem? (i := 0) rfl) le_refl_e) gin_nil) ?_
            refine sq_plain rfl rfl rfl (w_assign rfl (ev_tmp rfl)) ?_
            refine sq_nil ?_
            refine awp_ret ?_
            (refine retG [] ((l, l2)) ?_ rfl (by first | (dsimp only; rfl) | rfl) (resN rfl (by decide) (rv_cons (rv_tmp' rfl (by rfl)) (rv_cons (rv_tmp' rfl (by rfl)) rv_nil))); exact ⟨hls, hls2⟩)
    · intro h21
      obtain ⟨l2, hl2⟩ : ∃ l2, l = l2 := ⟨_, rfl⟩
      have hls2 : sizeL TCell.size l2 ≤ 90000 := by (rw [← hl2]; omega)
      have hq : ∀ own : List Go.AV.Own, (∀ o ∈ nin TCell.ow l x14.2, o ∈ own) → LendE own (nrows TCell.ocs l x14.2) (l2.map TCell.cs) := fun own hm => hl2 ▸ nin_lendE TCell.lcM ok14 hm
      refine awp_skip ?_
      refine awp_seq ?_
      refine awp_region ?_
      refine sq_le (le_sealT 2 0 (.arr x14.1 153 2 (l2.map TCell.cs)) rfl (⟨rfl, rfl, rfl, hq _ (fun _ ho => ho)⟩) gin_nil) ?_
      refine sq_plain rfl rfl rfl (w_move rfl (ev_tmp rfl)) ?_
      refine sq_plain rfl rfl rfl (w_move rfl (ev_tmp rfl)) ?_
      refine sq_plain rfl rfl rfl (w_assign rfl (ev_tmp rfl)) ?_
      refine sq_le (le_sealD [0] 54 rfl rfl (lt_arr (List.mem_of_getElem? (i := 0) rfl) le_refl_e) gin_nil) ?_
      refine sq_plain rfl rfl rfl (w_assign rfl (ev_tmp rfl)) ?_
      refine sq_nil ?_
      refine awp_ret ?_
      (refine retG [] ((l, l2)) ?_ rfl (by first | (dsimp only; rfl) | rfl) (resN rfl (by decide) (rv_cons (rv_tmp' rfl (by rfl)) (rv_cons (rv_tmp' rfl (by rfl)) rv_nil))); exact ⟨hls, hls2⟩)
end Go.Proofs.Yteliahajeokciaa

set_option linter.unusedVariables false
set_option linter.unusedSimpArgs false
namespace Go.M
open Go.AV
/-! ### Trimming -/
def lastFrom (f : Int) : List TVer → Nat → Nat → Nat
  | [], _, b => b
  | v :: r, i, b => lastFrom f r (i + 1) (if v.Time ≤ f then i else b)
def firstR (vs : List TVer) (f : Int) : Nat := lastFrom f vs 0 0 + (match vs[lastFrom f vs 0 0]? with
  | some v => if (decide (v.Time ≤ f) && v.Gone) = true then 1 else 0
  | none => 0)
def trimV (f : Int) (vs : List TVer) : List TVer := vs.drop (firstR vs f)
def headLe (f : Int) : List TVer → Bool
  | [] => false
  | u :: _ => decide (u.Time ≤ f)
def keepF (f : Int) : List TVer → List TVer
  | [] => []
  | v :: r => (if (decide (f < v.Time) || (!headLe f r && !v.Gone)) = true then [v] else []) ++ keepF f r
def trimT (f : Int) : List TVer → List TVer
  | [] => []
  | v :: r => if f < v.Time then v :: r else if headLe f r = true then trimT f r else if v.Gone = true then r else v :: r
def trimBy (g : List TVer → List TVer) (l : List TCell) : List TCell := l.filterMap fun c => if 0 < (g c.Vers).length then some ⟨c.Key, g c.Vers⟩ else none
def trimR (l : List TCell) (f : Int) : List TCell := trimBy (trimV f) l
def trimS (l : List TCell) (f : Int) : List TCell := trimBy (keepF f) l
def trimCellsR (l : List TCell) (f : Int) : List TCell × Bool := if (!goodCells l || !isTrue f) = true then ([], false) else (trimR l f, true)
def trimCellsS (l : List TCell) (f : Int) : List TCell × Bool := if (!l3Good l || !isTrue f) = true then ([], false) else (trimS l f, true)
theorem verLess_trans (a b c : TVer) (h : verLess a b = true) (k : verLess b c = true) : verLess a c = true := by
  unfold verLess at *; simp at *; omega
theorem ver_gt {f : Int} {v : TVer} {r : List TVer} (ha : adj verLess (v :: r) = true) (h : f < v.Time) : ∀ u ∈ v :: r, f < u.Time := fun u hu => by
  rcases List.mem_cons.1 hu with e | e
  · subst e; exact h
  · have := adj_all verLess_trans ha u e
    unfold verLess at this; simp at this; omega
theorem head_gt {f : Int} {r : List TVer} (ha : adj verLess r = true) (h : headLe f r = false) : ∀ u ∈ r, f < u.Time := by
  cases r with
  | nil => simp
  | cons v r => exact ver_gt ha (by unfold headLe at h; simpa using h)
theorem keep_all {f : Int} : ∀ {r : List TVer}, (∀ u ∈ r, f < u.Time) → keepF f r = r
  | [], _ => rfl
  | v :: r, h => by
    have hv := h v List.mem_cons_self
    unfold keepF
    rw [decide_eq_true hv, Bool.true_or, if_pos rfl, keep_all fun u hu => h u (List.mem_cons_of_mem _ hu)]; rfl
theorem keep_trim {f : Int} : ∀ {vs : List TVer}, adj verLess vs = true → keepF f vs = trimT f vs
  | [], _ => rfl
  | v :: r, ha => by
    have har := adj_tail ha
    unfold keepF trimT
    by_cases h1 : f < v.Time
    · rw [if_pos h1, decide_eq_true h1, Bool.true_or, if_pos rfl, keep_all fun u hu => ver_gt ha h1 u (List.mem_cons_of_mem _ hu)]; rfl
    · rw [if_neg h1, decide_eq_false h1, Bool.false_or]
      cases h2 : headLe f r with
      | true => rw [if_pos rfl, keep_trim har]; rfl
      | false =>
        rw [keep_all (head_gt har h2)]
        cases v.Gone <;> rfl
theorem last_none {f : Int} : ∀ {r : List TVer} {i b : Nat}, (∀ u ∈ r, f < u.Time) → lastFrom f r i b = b
  | [], _, _, _ => rfl
  | v :: r, i, b, h => by
    have hv := h v List.mem_cons_self
    unfold lastFrom
    rw [if_neg (by omega), last_none fun u hu => h u (List.mem_cons_of_mem _ hu)]
theorem last_shift {f : Int} : ∀ {r : List TVer} {i b : Nat}, lastFrom f r (i + 1) (b + 1) = lastFrom f r i b + 1
  | [], _, _ => rfl
  | v :: r, i, b => by
    unfold lastFrom
    split
    · rw [last_shift]
    · rw [last_shift]
theorem last_lt {f : Int} : ∀ {r : List TVer} {i b : Nat}, b < i + r.length → lastFrom f r i b < i + r.length
  | [], i, b, h => h
  | v :: r, i, b, h => by
    unfold lastFrom
    rw [List.length_cons] at h ⊢
    have := last_lt (f := f) (r := r) (i := i + 1) (b := if v.Time ≤ f then i else b) (by split <;> omega)
    omega
theorem trimV_trim {f : Int} : ∀ {vs : List TVer}, adj verLess vs = true → trimV f vs = trimT f vs
  | [], _ => rfl
  | v :: r, ha => by
    have har := adj_tail ha
    by_cases h1 : f < v.Time
    · have hn := last_none (f := f) (r := v :: r) (i := 0) (b := 0) (ver_gt ha h1)
      unfold trimV firstR trimT
      rw [hn, if_pos h1]
      simp [show ¬ (v.Time ≤ f) by omega]
    · have hle : v.Time ≤ f := by omega
      cases h2 : headLe f r with
      | false =>
        have hn : lastFrom f (v :: r) 0 0 = 0 := by unfold lastFrom; rw [if_pos hle, last_none (head_gt har h2)]
        unfold trimV firstR trimT
        rw [hn, if_neg h1, h2, if_neg (by decide)]
        simp only [List.getElem?_cons_zero, decide_eq_true hle, Bool.true_and]
        cases v.Gone <;> simp
      | true =>
        cases r with
        | nil => cases h2
        | cons u r =>
          have hu : u.Time ≤ f := by unfold headLe at h2; simpa using h2
          have hn : lastFrom f (v :: u :: r) 0 0 = lastFrom f (u :: r) 0 0 + 1 := by
            show lastFrom f r 2 (if u.Time ≤ f then 1 else if v.Time ≤ f then 0 else 0) = lastFrom f r 1 (if u.Time ≤ f then 0 else 0) + 1
            rw [if_pos hu, if_pos hu]
            exact last_shift
          have ih := trimV_trim (f := f) har
          unfold trimT
          rw [if_neg h1, h2, if_pos rfl, ← ih]
          unfold trimV firstR
          rw [hn, List.getElem?_cons_succ]
          rw [show lastFrom f (u :: r) 0 0 + 1 + (match (u :: r)[lastFrom f (u :: r) 0 0]? with | some v => if (decide (v.Time ≤ f) && v.Gone) = true then 1 else 0 | none => 0) = (lastFrom f (u :: r) 0 0 + (match (u :: r)[lastFrom f (u :: r) 0 0]? with | some v => if (decide (v.Time ≤ f) && v.Gone) = true then 1 else 0 | none => 0)) + 1 by omega]
          rw [List.drop_succ_cons]
theorem trim_suffix {f : Int} : ∀ {vs : List TVer}, ∃ n, trimT f vs = vs.drop n
  | [] => ⟨0, rfl⟩
  | v :: r => by
    unfold trimT
    split
    · exact ⟨0, rfl⟩
    · split
      · obtain ⟨n, hn⟩ := trim_suffix (f := f) (vs := r)
        exact ⟨n + 1, by rw [hn]; rfl⟩
      · split
        · exact ⟨1, rfl⟩
        · exact ⟨0, rfl⟩
theorem trim_id {f : Int} {r : List TVer} (h : headLe f r = false) : trimT f r = r := by
  cases r with
  | nil => rfl
  | cons v r => unfold headLe at h; unfold trimT; rw [if_pos (by simpa using h)]
theorem trim_trim {f : Int} : ∀ {vs : List TVer}, trimT f (trimT f vs) = trimT f vs
  | [] => rfl
  | v :: r => by
    have e : trimT f (v :: r) = if f < v.Time then v :: r else if headLe f r = true then trimT f r else if v.Gone = true then r else v :: r := by rw [trimT]
    by_cases h1 : f < v.Time
    · rw [e, if_pos h1, e, if_pos h1]
    · cases h2 : headLe f r with
      | true => rw [e, if_neg h1, h2, if_pos rfl]; exact trim_trim
      | false =>
        cases h3 : v.Gone with
        | true => rw [e, if_neg h1, h2, if_neg (by decide), h3, if_pos rfl]; exact trim_id h2
        | false =>
          have e2 : trimT f (v :: r) = v :: r := by rw [e, if_neg h1, h2, if_neg (by decide), h3, if_neg (by decide)]
          rw [e2, e2]
theorem verAt_cons (v : TVer) (r : List TVer) (t : Int) : verAt (v :: r) t = match verAt r t with | some u => some u | none => if v.Time ≤ t then some v else none := by
  unfold verAt
  rw [List.reverse_cons, List.find?_append]
  cases (r.reverse.find? fun v => decide (v.Time ≤ t)) with
  | some u => rfl
  | none => by_cases h : v.Time ≤ t <;> simp [h]
theorem verAt_some {r : List TVer} {t : Int} (h : headLe t r = true) : ∃ u, verAt r t = some u := by
  cases r with
  | nil => cases h
  | cons v r =>
    rw [verAt_cons]
    cases verAt r t with
    | some u => exact ⟨u, rfl⟩
    | none => unfold headLe at h; exact ⟨v, by simp at h; simp [h]⟩
theorem head_mono {f t : Int} {r : List TVer} (h : headLe f r = true) (hft : f ≤ t) : headLe t r = true := by
  cases r with
  | nil => cases h
  | cons v r => unfold headLe at *; simp at *; omega
theorem trim_at {f t : Int} (hft : f ≤ t) : ∀ {vs : List TVer}, verAt (trimT f vs) t = verAt vs t ∨ ∃ v, verAt vs t = some v ∧ v.Gone = true ∧ verAt (trimT f vs) t = none
  | [] => .inl rfl
  | v :: r => by
    have ih := trim_at hft (vs := r)
    unfold trimT
    by_cases h1 : f < v.Time
    · rw [if_pos h1]; exact .inl rfl
    · rw [if_neg h1]
      cases h2 : headLe f r with
      | true =>
        rw [if_pos rfl]
        obtain ⟨u, hu⟩ := verAt_some (head_mono h2 hft)
        have e : verAt (v :: r) t = verAt r t := by rw [verAt_cons, hu]
        rw [e]; exact ih
      | false =>
        rw [if_neg (by decide)]
        cases h3 : v.Gone with
        | true =>
          rw [if_pos rfl, verAt_cons]
          cases hr : verAt r t with
          | some u => exact .inl rfl
          | none => exact .inr ⟨v, by simp [show v.Time ≤ t by omega], h3, rfl⟩
        | false => rw [if_neg (by decide)]; exact .inl rfl
theorem trim_val {f t : Int} (hft : f ≤ t) (c : TCell) : (cellVal ⟨c.Key, trimT f c.Vers⟩ t).2 = (cellVal c t).2 ∧ ((cellVal c t).2 = true → (cellVal ⟨c.Key, trimT f c.Vers⟩ t).1 = (cellVal c t).1) := by
  rw [cellVal_verAt, cellVal_verAt]
  rcases trim_at hft (vs := c.Vers) with h | ⟨v, h1, h2, h3⟩
  · rw [h]; exact ⟨rfl, fun _ => rfl⟩
  · dsimp only
    rw [h1, h3]
    simp [h2]
theorem trimBy_congr {g h : List TVer → List TVer} {l : List TCell} (e : ∀ c ∈ l, g c.Vers = h c.Vers) : trimBy g l = trimBy h l := by
  unfold trimBy
  induction l with
  | nil => rfl
  | cons c l ih =>
    rw [List.filterMap_cons, List.filterMap_cons, e c List.mem_cons_self, ih fun d hd => e d (List.mem_cons_of_mem _ hd)]
theorem trimR_eq {l : List TCell} (h : goodCells l = true) (f : Int) : trimR l f = trimBy (trimT f) l := trimBy_congr fun c hc => trimV_trim ((goodCells_facts h).2.2 c hc).2.2.2.1
theorem trimS_eq {l : List TCell} (h : goodCells l = true) (f : Int) : trimS l f = trimBy (trimT f) l := trimBy_congr fun c hc => keep_trim ((goodCells_facts h).2.2 c hc).2.2.2.1
theorem trimCells_eq (l : List TCell) (f : Int) : trimCellsR l f = trimCellsS l f := by
  unfold trimCellsR trimCellsS
  rw [← goodCells_eq]
  split
  · rfl
  · rename_i h
    simp only [Bool.or_eq_true, Bool.not_eq_true', not_or, Bool.not_eq_false] at h
    rw [trimR_eq h.1, trimS_eq h.1]
theorem trimBy_at {f t : Int} (hft : f ≤ t) (l : List TCell) : cellsAt (trimBy (trimT f) l) t = cellsAt l t := by
  unfold cellsAt trimBy
  rw [List.filterMap_filterMap]
  congr 1
  funext c
  obtain ⟨h1, h2⟩ := trim_val hft c
  by_cases hn : 0 < (trimT f c.Vers).length
  · rw [if_pos hn]
    show (if (cellVal ⟨c.Key, trimT f c.Vers⟩ t).2 = true then some _ else none) = _
    rw [h1]
    by_cases h3 : (cellVal c t).2 = true
    · rw [if_pos h3, if_pos h3, h2 h3]
    · rw [if_neg h3, if_neg h3]
  · rw [if_neg hn]
    show none = _
    have he : trimT f c.Vers = [] := List.length_eq_zero_iff.1 (by omega)
    have h4 : (cellVal ⟨c.Key, trimT f c.Vers⟩ t).2 = false := by rw [he]; rfl
    rw [← h1, h4, if_neg (by decide)]
theorem adj_pairC {α : Type} {p : α → α → Bool} (tr : ∀ a b c, p a b = true → p b c = true → p a c = true) : ∀ {l : List α}, adj p l = true ↔ l.Pairwise fun a b => p a b = true
  | [] => by simp [adj]
  | [x] => by simp [adj]
  | x :: y :: l => by
    constructor
    · intro h
      refine List.pairwise_cons.2 ⟨adj_all tr h, ?_⟩
      exact (adj_pairC tr).1 (adj_tail h)
    · intro h
      obtain ⟨h1, h2⟩ := List.pairwise_cons.1 h
      rw [adj_cons2, h1 y List.mem_cons_self, (adj_pairC tr).2 h2]; rfl
theorem trim_mem {f : Int} {l : List TCell} {c : TCell} (h : c ∈ trimBy (trimT f) l) : ∃ d ∈ l, c = ⟨d.Key, trimT f d.Vers⟩ ∧ 0 < (trimT f d.Vers).length := by
  unfold trimBy at h
  obtain ⟨d, hd, he⟩ := List.mem_filterMap.1 h
  split at he
  · rename_i hn; injection he with he; exact ⟨d, hd, he.symm, hn⟩
  · cases he
theorem goodCells_of {l : List TCell} (h1 : l.length ≤ 24) (h2 : adj cLess l = true) (h3 : ∀ c ∈ l, goodKey c.Key = true ∧ 1 ≤ c.Vers.length ∧ c.Vers.length ≤ 16 ∧ adj verLess c.Vers = true ∧ ∀ v ∈ c.Vers, verGood v = true) : goodCells l = true := by
  rw [goodCells_eq]
  unfold l3Good
  simp only [Bool.and_eq_true, List.all_eq_true, decide_eq_true_eq]
  refine ⟨⟨fun c hc => ?_, h2⟩, by omega⟩
  obtain ⟨k1, k2, k3, k4, k5⟩ := h3 c hc
  rw [← cell_eq, k1, Bool.and_true]
  unfold isCell within
  simp only [Bool.and_eq_true, List.all_eq_true, decide_eq_true_eq]
  exact ⟨⟨k5, k4⟩, by omega, by omega⟩
theorem adj_dropC {α : Type} {p : α → α → Bool} (tr : ∀ a b c, p a b = true → p b c = true → p a c = true) {l : List α} (h : adj p l = true) (n : Nat) : adj p (l.drop n) = true :=
  (adj_pairC tr).2 (((adj_pairC tr).1 h).sublist (List.drop_sublist n l))
theorem trim_good {l : List TCell} (h : goodCells l = true) (f : Int) : goodCells (trimBy (trimT f) l) = true := by
  obtain ⟨h1, h2, h3⟩ := goodCells_facts h
  refine goodCells_of (Nat.le_trans (List.length_filterMap_le _ _) h1) ?_ fun c hc => ?_
  · refine (adj_pairC cLess_trans).2 ?_
    have hp := (adj_pairC cLess_trans).1 h2
    unfold trimBy
    refine List.pairwise_filterMap.2 (hp.imp fun {a b} hab x hx y hy => ?_)
    split at hx
    · injection hx with hx
      split at hy
      · injection hy with hy
        subst hx; subst hy; exact hab
      · cases hy
    · cases hx
  · obtain ⟨d, hd, rfl, hn⟩ := trim_mem hc
    obtain ⟨k1, k2, k3, k4, k5⟩ := h3 d hd
    obtain ⟨n, hs⟩ := trim_suffix (f := f) (vs := d.Vers)
    dsimp only
    refine ⟨k1, hn, ?_, ?_, ?_⟩
    · rw [hs, List.length_drop]; omega
    · rw [hs]; exact adj_dropC verLess_trans k4 n
    · rw [hs]; exact fun v hv => k5 v (List.mem_of_mem_drop hv)
theorem trimBy_idem (f : Int) (l : List TCell) : trimBy (trimT f) (trimBy (trimT f) l) = trimBy (trimT f) l := by
  unfold trimBy
  rw [List.filterMap_filterMap]
  congr 1
  funext c
  by_cases hn : 0 < (trimT f c.Vers).length
  · rw [if_pos hn]
    show (if 0 < (trimT f (trimT f c.Vers)).length then some (⟨c.Key, trimT f (trimT f c.Vers)⟩ : TCell) else none) = _
    rw [trim_trim, if_pos hn]
  · rw [if_neg hn]; rfl
theorem trimBy_len (g : List TVer → List TVer) (l : List TCell) : (trimBy g l).length ≤ l.length := List.length_filterMap_le _ _
/-- What a snapshot holds is what the lookup says. -/
theorem snap_look {l : List TCell} {t : Int} {w : TWrite} (h : goodCells l = true) (hw : w ∈ cellsAt l t) : goodKey w.Key = true ∧ cellAt l w.Key t = (w.Val, true) ∧ w.Gone = false := by
  unfold cellsAt at hw
  obtain ⟨c, hc, he⟩ := List.mem_filterMap.1 hw
  split at he
  · rename_i hv
    injection he with he
    subst he
    obtain ⟨_, h2, h3⟩ := goodCells_facts h
    obtain ⟨i, hi⟩ := List.getElem?_of_mem hc
    refine ⟨(h3 c hc).1, ?_, rfl⟩
    dsimp only
    rw [cellAt_some (findC_at h2 hi)]
    exact Prod.ext rfl hv
  · cases he
theorem drop_size {f : TVer → Nat} : ∀ {vs : List TVer} {n : Nat}, sizeL f (vs.drop n) ≤ sizeL f vs
  | [], n => by simp [sizeL]
  | v :: r, 0 => Nat.le_refl _
  | v :: r, n + 1 => by rw [List.drop_succ_cons, sizeL_cons]; have := drop_size (f := f) (vs := r) (n := n); omega
theorem trimBy_size {g : List TVer → List TVer} (hg : ∀ vs, sizeL TVer.size (g vs) ≤ sizeL TVer.size vs) (l : List TCell) : sizeL TCell.size (trimBy g l) ≤ sizeL TCell.size l := by
  unfold trimBy
  induction l with
  | nil => exact Nat.le_refl _
  | cons c l ih =>
    rw [List.filterMap_cons, sizeL_cons]
    have h1 := hg c.Vers
    by_cases hn : 0 < (g c.Vers).length
    · rw [if_pos hn]; dsimp only; rw [sizeL_cons]; unfold TCell.size at ih ⊢; dsimp only; omega
    · rw [if_neg hn]; dsimp only; omega
theorem trimR_size (l : List TCell) (f : Int) : sizeL TCell.size (trimCellsR l f).1 ≤ sizeL TCell.size l := by
  unfold trimCellsR
  split
  · simp [sizeL]
  · exact trimBy_size (g := trimV f) (fun vs => drop_size) l
end Go.M

set_option linter.unusedVariables false
set_option linter.unusedSimpArgs false
namespace Go.M
open Go.AV
def versOf (l : List TCell) (k : Str) : List TVer := match findC l k with
  | some c => c.Vers
  | none => []
theorem findC_cons (c : TCell) (l : List TCell) (k : Str) : findC (c :: l) k = if c.Key = k then some c else findC l k := by
  unfold findC
  rw [List.find?_cons]
  by_cases h : c.Key = k
  · rw [if_pos h, beq_iff_eq.2 h]
  · rw [if_neg h, beq_eq_false_iff_ne.2 h]
theorem findC_gt {l : List TCell} {k : Str} (h : ∀ c ∈ l, Op.bytesLess k c.Key = true) : findC l k = none := by
  unfold findC
  rw [List.find?_eq_none]
  intro c hc he
  have := h c hc
  simp only [beq_iff_eq] at he
  rw [he, bytesLess_irrefl] at this; cases this
theorem find_ins {k : Str} {v : TVer} : ∀ {l : List TCell}, adj cLess l = true → findC (insC l k v) k = some ⟨k, versOf l k ++ [v]⟩
  | [], _ => by unfold insC; rw [findC_cons, if_pos rfl]; rfl
  | c :: l, ha => by
    have hal := adj_tail ha
    unfold insC
    by_cases h1 : Op.bytesLess c.Key k = true
    · have hne : c.Key ≠ k := fun e => by rw [e, bytesLess_irrefl] at h1; cases h1
      rw [if_pos h1, findC_cons, if_neg hne, find_ins hal]
      unfold versOf; rw [findC_cons, if_neg hne]
    · rw [if_neg h1]
      by_cases h2 : c.Key = k
      · rw [if_pos h2, findC_cons, if_pos rfl]
        unfold versOf; rw [findC_cons, if_pos h2]
      · rw [if_neg h2, findC_cons, if_pos rfl]
        have hk : Op.bytesLess k c.Key = true := by have := bytesLess_tri k c.Key; simp_all
        have hn : findC (c :: l) k = none := findC_gt fun d hd => by
          rcases List.mem_cons.1 hd with e | e
          · subst e; exact hk
          · exact bytesLess_trans hk (adj_all cLess_trans ha d e)
        unfold versOf; rw [hn]; rfl
theorem find_ins_other {k k' : Str} {v : TVer} (hk : k' ≠ k) : ∀ {l : List TCell}, findC (insC l k v) k' = findC l k'
  | [] => by unfold insC; rw [findC_cons, if_neg (fun e => hk e.symm)]
  | c :: l => by
    unfold insC
    split
    · rw [findC_cons, findC_cons, find_ins_other hk]
    · split
      · rename_i h2
        rw [findC_cons, findC_cons, if_neg (fun e => hk e.symm), if_neg (fun e => hk (e.symm.trans h2))]
      · rw [findC_cons, if_neg (fun e => hk e.symm)]
theorem put_find {t : Int} : ∀ {w : List TWrite} {l out : List TCell}, (w.map TWrite.Key).Nodup → adj cLess l = true → putAll l w t = some out →
    (∀ x ∈ w, findC out x.Key = some ⟨x.Key, versOf l x.Key ++ [⟨t, x.Val, x.Gone⟩]⟩) ∧ ∀ k, k ∉ w.map TWrite.Key → findC out k = findC l k
  | [], l, out, _, _, h => by simp [putAll] at h; subst h; simp
  | y :: w, l, out, hn, ha, h => by
    unfold putAll at h
    split at h
    · cases h
    · rw [List.map_cons, List.nodup_cons] at hn
      obtain ⟨i1, i2⟩ := put_find hn.2 (insC_adj y.Key ⟨t, y.Val, y.Gone⟩ ha) h
      refine ⟨fun x hx => ?_, fun k hk => ?_⟩
      · rcases List.mem_cons.1 hx with e | e
        · subst e
          rw [i2 _ hn.1]; exact find_ins ha
        · rw [i1 x e]
          have hne : x.Key ≠ y.Key := fun e2 => hn.1 (e2 ▸ List.mem_map_of_mem e)
          have : versOf (putC1 l y t) x.Key = versOf l x.Key := by
            unfold versOf putC1; rw [find_ins_other hne]
          unfold putC1 at this
          rw [this]
      · simp only [List.map_cons, List.mem_cons, not_or] at hk
        rw [i2 k hk.2]; exact find_ins_other hk.1
theorem writes_nodup {w : List TWrite} (h : goodWrites w = true) : (w.map TWrite.Key).Nodup := by
  unfold goodWrites areRising wKeys at h
  simp only [Bool.and_eq_true] at h
  have ha := h.1.2.2
  rw [List.Nodup]
  refine ((adj_pairC (p := fun a b => Op.bytesLess a b) (fun a b c h k => bytesLess_trans h k)).1 ha).imp fun {a b} hab e => ?_
  rw [e, bytesLess_irrefl] at hab; cases hab
theorem writes_key {w : List TWrite} (h : goodWrites w = true) {x : TWrite} (hx : x ∈ w) : goodKey x.Key = true := by
  unfold goodWrites areRising wKeys at h
  simp only [Bool.and_eq_true, List.all_eq_true] at h
  exact h.1.2.1 _ (List.mem_map_of_mem hx)
theorem put_ok {l : List TCell} {w : List TWrite} {t : Int} (h : (putCellsR l w t).2 = true) : goodCells l = true ∧ goodWrites w = true ∧ isTime t = true ∧ ∃ out, putAll l w t = some out ∧ goodCells out = true ∧ putCellsR l w t = (out, true) := by
  unfold putCellsR at h ⊢
  split at h
  · cases h
  · rename_i hb
    rw [if_neg hb]
    simp only [Bool.or_eq_true, Bool.not_eq_true', not_or, Bool.not_eq_false] at hb
    refine ⟨hb.1.1, hb.1.2, hb.2, ?_⟩
    unfold putCells at h ⊢
    cases hp : putAll l w t with
    | none => rw [hp] at h; cases h
    | some out =>
      rw [hp] at h
      dsimp only at h ⊢
      cases hg : goodCells out with
      | true => exact ⟨out, rfl, hg, rfl⟩
      | false => rw [hg] at h; simp at h
theorem verAt_snoc (vs : List TVer) (v : TVer) (t : Int) : verAt (vs ++ [v]) t = if v.Time ≤ t then some v else verAt vs t := by
  unfold verAt
  rw [List.reverse_append]
  show List.find? _ (v :: vs.reverse) = _
  rw [List.find?_cons]
  by_cases h : v.Time ≤ t <;> simp [h]
theorem put_seen {l out : List TCell} {w : List TWrite} {t : Int} (hl : goodCells l = true) (hw : goodWrites w = true) (ht : isTime t = true) (hp : putAll l w t = some out) (ho : goodCells out = true) {x : TWrite} (hx : x ∈ w) :
    cellAtR out x.Key t = (x.Val, !x.Gone, true) ∧ lastTimeR out x.Key = (t, true) ∧ cellAtR out x.Key (t - 1) = cellAtR l x.Key (t - 1) ∧ (cellAtR l x.Key (t - 1)).2.2 = true := by
  obtain ⟨h1, _⟩ := put_find (writes_nodup hw) (goodCells_facts hl).2.1 hp
  have hf := h1 x hx
  have hk := writes_key hw hx
  have htt : isTrue t = true ∧ isTrue (t - 1) = true := by
    unfold isTime isTrue within at *
    simp only [Bool.and_eq_true, decide_eq_true_eq] at *
    omega
  have hc1 : cellAt out x.Key t = (x.Val, !x.Gone) := by
    rw [cellAt_some hf, cellVal_verAt]; dsimp only
    rw [verAt_snoc, if_pos (by dsimp only; omega)]; simp
  have hc2 : lastTime out x.Key = t := by unfold lastTime lastV; rw [hf]; simp
  have hc3 : cellAt out x.Key (t - 1) = cellAt l x.Key (t - 1) := by
    rw [cellAt_some hf, cellVal_verAt]; dsimp only
    rw [verAt_snoc, if_neg (by dsimp only; omega)]
    unfold versOf
    cases hfl : findC l x.Key with
    | none => rw [cellAt_none hfl]; rfl
    | some c => rw [cellAt_some hfl, cellVal_verAt]
  unfold cellAtR lastTimeR
  rw [hl, ho, hk, htt.1, htt.2, hc1, hc2, hc3]
  simp
theorem put_twice {l out : List TCell} {w : List TWrite} {t : Int} (hl : goodCells l = true) (hw : goodWrites w = true) (hp : putAll l w t = some out) (hn : 0 < w.length) : (putCellsR out w t).2 = false := by
  cases w with
  | nil => simp at hn
  | cons x w =>
    obtain ⟨h1, _⟩ := put_find (writes_nodup hw) (goodCells_facts hl).2.1 hp
    have hf := h1 x List.mem_cons_self
    have hc2 : lastTime out x.Key = t := by unfold lastTime lastV; rw [hf]; simp
    unfold putCellsR
    split
    · rfl
    · unfold putCells putAll
      rw [hc2, decide_eq_true (Int.le_refl t), if_pos rfl]
end Go.M
