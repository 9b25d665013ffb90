/- FnExactPlayMove: for all arguments the program's PlayMove answers what the reference's answers, in memory of its own. No condition. -/
import Derived.Test.YtinakggafbidcaaMove8W
import Derived.Test.YtinakggafbidcaaMark2W
import Derived.Test.YtinakggafbidcaaTypesW
import Derived.Test.YtinakggafbidcaaAvLaw
set_option linter.unusedVariables false
set_option linter.unusedSimpArgs false
set_option maxRecDepth 100000
namespace Go.Proofs.Ytinakggafbidcaa
open Go Go.AV Go.M
open Go.ChangeShapes Go.WideShapes Go.ChangeAt Go.RowKit
section
attribute [local irreducible] OpW OpA OpS AWP FSpec ESpec GSpec OpE RetOk RetOkG RvDen Le Ev GuardIs SrcIs
theorem playMove_len (m : TMove) (l : List TMoveAct) : (playMove m l).1.From.length ≤ 24 ∧ (playMove m l).1.To.length ≤ 24 ∧ (playMove m l).2.1.length ≤ l.length := by
  unfold playMove; split
  · exact ⟨Nat.zero_le _, Nat.zero_le _, Nat.zero_le _⟩
  · rename_i h
    have hg : goodMove m = true := by cases hg : goodMove m with | true => rfl | false => (rw [hg] at h; simp at h)
    obtain ⟨h1, h2⟩ := goodMove_l5 (runI_good hg l)
    exact ⟨l5_len h1, l5_len h2, Nat.le_of_eq (runI_len m l)⟩
theorem fnExactPlayMove_spec (m : TMove) (hm : m.ok) (l : List TMoveAct) (ha : ∀ x ∈ l, x.ok) : FSpec Try.prog 4 [AV.agg m.cs, AV.list 5 (l.map TMoveAct.cs)] (AV.bool true) := by
  refine spec_of_awp Try.func4 rfl Try.ntmps4 rfl ?_
  refine awp_seq ?_
  refine awp_region ?_
  refine sq_box rfl rfl rfl rfl (ev_tmp rfl) ?_
  intro b2
  refine sq_plain rfl rfl rfl (w_assign rfl ev_cb) ?_
  refine sq_nil ?_
  refine awp_seq ?_
  refine awp_region ?_
  refine sq_plain rfl rfl rfl (w_assign rfl ev_ci) ?_
  refine sq_nil ?_
  refine awp_seq ?_
  refine awp_region ?_
  refine sq_plain rfl rfl rfl (w_loadA 0 rfl (ev_tmp rfl) rfl Try.isAgg24 Try.sizeOf24 rfl) ?_
  refine sq_plain rfl rfl rfl (w_move rfl (ev_tmp rfl)) ?_
  refine sq_plain rfl rfl rfl (w_call rfl Try.call8 rfl (szMove_spec _ _ (by assumption) (by first | omega | ((try simp only [List.length_map, List.length_take, List.length_cons, List.length_nil, chunks_len, szR] at *); omega) | (have hc2 := hc; simp only [Bool.and_eq_true, Bool.or_eq_true, Bool.or_eq_false_iff, Bool.and_eq_false_iff, Bool.not_eq_true', Bool.not_eq_false', decide_eq_true_eq, decide_eq_false_iff_not, beq_iff_eq, bne_iff_ne, List.length_map, List.length_take] at hc2; omega)) (by first | omega | ((try simp only [List.length_map, List.length_take, List.length_cons, List.length_nil, chunks_len, szR] at *); omega) | (have hc2 := hc; simp only [Bool.and_eq_true, Bool.or_eq_true, Bool.or_eq_false_iff, Bool.and_eq_false_iff, Bool.not_eq_true', Bool.not_eq_false', decide_eq_true_eq, decide_eq_false_iff_not, beq_iff_eq, bne_iff_ne, List.length_map, List.length_take] at hc2; omega))) (evl_cons (ev_tmp rfl) (evl_cons (ev_tmp rfl) evl_nil))) ?_
  refine sq_plain rfl rfl rfl (w_assign rfl (ev_tmp rfl)) ?_
  refine sq_nil ?_
  refine awp_seq ?_
  refine awp_seq ?_
  refine awp_region ?_
  refine sq_plain rfl rfl rfl (w_move rfl (ev_tmp rfl)) ?_
  refine sq_plain rfl rfl rfl (w_lss rfl (ev_tmp rfl) ev_ci) ?_
  refine sq_nil ?_
  refine awp_cond (ev_tmp rfl) ?_ ?_
  · intro h24
    have k24 := of_decide_eq_true h24; try simp only [List.length_map] at k24
    refine awp_seq ?_
    refine awp_region ?_
    refine sq_plain rfl rfl rfl (w_assign rfl ev_cb) ?_
    refine sq_nil ?_
    refine awp_ret ?_
    exact retR rfl (rv_tmp' rfl (by first | rfl | (exfalso; simp_all [playMove_eq]; done) | (exfalso; simp_all [playMove_eq]; omega)))
  · intro h24
    have k24 := of_decide_eq_false h24; try simp only [List.length_map] at k24
    refine awp_skip ?_
    refine awp_seq ?_
    refine awp_region ?_
    refine sq_plain rfl rfl rfl (w_move rfl (ev_tmp rfl)) ?_
    refine sq_plain rfl rfl rfl (w_move rfl (ev_tmp rfl)) ?_
    refine sq_plain rfl rfl rfl (w_call rfl Try.call17 rfl (szMoveActS_spec _ _ (by first | assumption | trivial) (by first | omega | ((try simp only [List.length_map, List.length_take, List.length_cons, List.length_nil, chunks_len, szR] at *); omega) | (have hc2 := hc; simp only [Bool.and_eq_true, Bool.or_eq_true, Bool.or_eq_false_iff, Bool.and_eq_false_iff, Bool.not_eq_true', Bool.not_eq_false', decide_eq_true_eq, decide_eq_false_iff_not, beq_iff_eq, bne_iff_ne, List.length_map, List.length_take] at hc2; omega)) (by first | omega | ((try simp only [List.length_map, List.length_take, List.length_cons, List.length_nil, chunks_len, szR] at *); omega) | (have hc2 := hc; simp only [Bool.and_eq_true, Bool.or_eq_true, Bool.or_eq_false_iff, Bool.and_eq_false_iff, Bool.not_eq_true', Bool.not_eq_false', decide_eq_true_eq, decide_eq_false_iff_not, beq_iff_eq, bne_iff_ne, List.length_map, List.length_take] at hc2; omega))) (evl_cons (ev_tmp rfl) (evl_cons (ev_tmp rfl) evl_nil))) ?_
    refine sq_plain rfl rfl rfl (w_assign rfl (ev_tmp rfl)) ?_
    refine sq_nil ?_
    refine awp_seq ?_
    refine awp_seq ?_
    refine awp_region ?_
    refine sq_plain rfl rfl rfl (w_move rfl (ev_tmp rfl)) ?_
    refine sq_plain rfl rfl rfl (w_lss rfl (ev_tmp rfl) ev_ci) ?_
    refine sq_nil ?_
    refine awp_cond (ev_tmp rfl) ?_ ?_
    · intro h29
      have k29 := of_decide_eq_true h29; try simp only [List.length_map] at k29
      refine awp_seq ?_
      refine awp_region ?_
      refine sq_plain rfl rfl rfl (w_assign rfl ev_cb) ?_
      refine sq_nil ?_
      refine awp_ret ?_
      exact retR rfl (rv_tmp' rfl (by first | rfl | (exfalso; simp_all [playMove_eq]; done) | (exfalso; simp_all [playMove_eq]; omega)))
    · intro h29
      have k29 := of_decide_eq_false h29; try simp only [List.length_map] at k29
      have hs : m.size ≤ 1048576 ∧ sizeL TMoveAct.size l ≤ 1048576 := by simp only [szR] at k29; split at k29 <;> omega
      obtain ⟨hsm, hsa⟩ := hs
      have hll : l.length ≤ 1048576 := Nat.le_trans sizeL_len hsa
      have hn := playMove_len m l
      have hmz := move_lens hsm
      have hN : 0 ≤ (1 : Int) ∧ (playMove m l).1.markN 1 ≤ 4611686018427387904 := ⟨by omega, by unfold TMove.markN; omega⟩
      have hN0 : ¬ ((playMove m l).1.markN 1 < 0) := by unfold TMove.markN; omega
      have hX : 0 ≤ (1 : Int) ∧ m.markN 1 ≤ 4611686018427387904 := ⟨by omega, by unfold TMove.markN; omega⟩
      have hX0 : ¬ (m.markN 1 < 0) := by unfold TMove.markN; omega
      refine awp_skip ?_
      refine awp_seq ?_
      refine awp_region ?_
      refine sq_plain rfl rfl rfl (w_loadA 0 rfl (ev_tmp rfl) rfl Try.isAgg24 Try.sizeOf24 rfl) ?_
      refine sq_plain rfl rfl rfl (w_call rfl Try.call11 rfl (toMove_spec _ (by first | assumption | omega | (simp only [] at *; omega))) (evl_cons (ev_tmp rfl) evl_nil)) ?_
      refine sq_plain rfl rfl rfl (w_move rfl (ev_tmp rfl)) ?_
      refine sq_plain rfl rfl rfl (w_call rfl Try.call19 rfl (toMoveActS_spec _ (by first | assumption | omega)) (evl_cons (ev_tmp rfl) evl_nil)) ?_
      refine sq_plain rfl rfl rfl (w_call rfl Try.call18 rfl (playMoveS_spec m l hsm hsa) (evl_cons (ev_tmp rfl) (evl_cons (ev_tmp rfl) evl_nil))) ?_
      refine sq_plain rfl rfl rfl (w_move rfl (ev_tmp rfl)) ?_
      refine sq_plain rfl rfl rfl (w_extract rfl (ev_tmp rfl) rfl) ?_
      refine sq_plain rfl rfl rfl (w_extract rfl (ev_tmp rfl) rfl) ?_
      refine sq_plain rfl rfl rfl (w_extract rfl (ev_tmp rfl) rfl) ?_
      refine sq_alloc rfl rfl rfl rfl Try.zeroValue33 rfl ?_
      intro b6
      refine sq_storeB0 0 rfl rfl rfl (ev_tmp rfl) (ev_tmp rfl) (as_agg _) rfl Try.sizeOf33 rfl ?_
      refine sq_plain rfl rfl rfl (w_assign rfl (ev_tmp rfl)) ?_
      refine sq_plain rfl rfl rfl (w_assign rfl (ev_tmp rfl)) ?_
      refine sq_nil ?_
      refine awp_seq ?_
      refine awp_region ?_
      refine sq_plain rfl rfl rfl (w_loadA 1 rfl (ev_tmp rfl) rfl Try.isAgg24 Try.sizeOf24 rfl) ?_
      refine sq_callG [] rfl rfl rfl rfl Try.call11 rfl (toMove_own m (by omega)) (evl_cons (ev_tmp rfl) evl_nil) rfl ?_
      intro x40 ok40
      refine sq_alloc rfl rfl rfl rfl Try.zeroValue33 rfl ?_
      intro b9
      refine sq_storeB0 0 rfl rfl rfl (ev_tmp rfl) (ev_tmp rfl) (as_agg _) rfl Try.sizeOf33 rfl ?_
      refine sq_nil ?_
      refine awp_seq ?_
      refine awp_region ?_
      refine sq_plain rfl rfl rfl (w_move rfl (ev_tmp rfl)) ?_
      refine sq_callG [] rfl rfl rfl rfl Try.call19 rfl (toMoveActS_own l (by assumption)) (evl_cons (ev_tmp rfl) evl_nil) rfl ?_
      intro x42 ok42
      refine sq_plain rfl rfl rfl (w_assign rfl (ev_tmp rfl)) ?_
      refine sq_nil ?_
      refine awp_seq ?_
      refine awp_region ?_
      refine sq_plain rfl rfl rfl (w_loadA 1 rfl (ev_tmp rfl) rfl Try.isAgg33 Try.sizeOf33 rfl) ?_
      refine sq_plain rfl rfl rfl (w_move rfl (ev_tmp rfl)) ?_
      refine sq_callGB [] rfl rfl rfl rfl Try.call20 rfl (playMove_own _ _ (by first | assumption | omega) (by first | assumption | omega)) rfl (evlb_cons (evb_lt (ev_tmp rfl) (lt_agg (lc_cons lt_refl (lc_cons lt_refl (lc_cons lt_refl (lc_cons (lt_arr (List.mem_of_getElem? (i := 2) rfl) le_refl_e) (lc_cons (lt_arr (List.mem_of_getElem? (i := 3) rfl) le_refl_e) (lc_cons lt_refl (lc_cons lt_refl lc_nil))))))))) (evlb_cons (evb_arr 0 (ev_tmp rfl) rfl) evlb_nil)) (by first | exact flatO_nil | (intro _; exact flatO_nil) | (intro _; first | exact flat_is _ | exact flat_ik _ _ | exact flat_bool _ | exact flat_str _ | exact flat_nils) | (intro _; refine flat_tup ?_; (repeat (first | exact flatl_nil | (refine flatl_cons (by first | (first | exact flat_is _ | exact flat_ik _ _ | exact flat_bool _ | exact flat_str _ | exact flat_nils) | (refine flat_agg ?_; (repeat (first | exact flatl_nil | (refine flatl_cons (by first | exact flat_is _ | exact flat_ik _ _ | exact flat_bool _ | exact flat_str _ | exact flat_nils) ?_))))) ?_))); done) | (intro _; refine flat_agg ?_; (repeat (first | exact flatl_nil | (refine flatl_cons (by first | exact flat_is _ | exact flat_ik _ _ | exact flat_bool _ | exact flat_str _ | exact flat_nils) ?_))); done) | ((repeat (first | exact flatO_nil | (refine flatO_cons (flatO_box ?_) ?_; (repeat (first | exact flatl_nil | (refine flatl_cons (by first | exact flat_is _ | exact flat_ik _ _ | exact flat_bool _ | exact flat_str _ | exact flat_nils) ?_)))) | (refine flatO_cons (flatO_arr ?_) ?_; (repeat (first | exact flate_nil | (refine flate_map (fun _ => ?_); (first | exact TWrite.flat _ | exact TFeedItem.flat _ | exact TIdx.flat _ | exact TVer.flat _ | (repeat (first | exact flatl_nil | (refine flatl_cons (by first | exact flat_is _ | exact flat_ik _ _ | exact flat_bool _ | exact flat_str _ | exact flat_nils) ?_))))) | (refine flate_rep ?_; (first | exact TWrite.flat _ | exact TFeedItem.flat _ | exact TIdx.flat _ | exact TVer.flat _ | (repeat (first | exact flatl_nil | (refine flatl_cons (by first | exact flat_is _ | exact flat_ik _ _ | exact flat_bool _ | exact flat_str _ | exact flat_nils) ?_))))) | (refine flate_cons ?_ ?_; (first | exact TWrite.flat _ | exact TFeedItem.flat _ | exact TIdx.flat _ | exact TVer.flat _ | (repeat (first | exact flatl_nil | (refine flatl_cons (by first | exact flat_is _ | exact flat_ik _ _ | exact flat_bool _ | exact flat_str _ | exact flat_nils) ?_))))) | refine flate_app ?_ ?_))))); done) | (intro _; (repeat (first | exact flatO_nil | (refine flatO_cons (flatO_box ?_) ?_; (repeat (first | exact flatl_nil | (refine flatl_cons (by first | exact flat_is _ | exact flat_ik _ _ | exact flat_bool _ | exact flat_str _ | exact flat_nils) ?_)))) | (refine flatO_cons (flatO_arr ?_) ?_; (repeat (first | exact flate_nil | (refine flate_map (fun _ => ?_); (first | exact TWrite.flat _ | exact TFeedItem.flat _ | exact TIdx.flat _ | exact TVer.flat _ | (repeat (first | exact flatl_nil | (refine flatl_cons (by first | exact flat_is _ | exact flat_ik _ _ | exact flat_bool _ | exact flat_str _ | exact flat_nils) ?_))))) | (refine flate_rep ?_; (first | exact TWrite.flat _ | exact TFeedItem.flat _ | exact TIdx.flat _ | exact TVer.flat _ | (repeat (first | exact flatl_nil | (refine flatl_cons (by first | exact flat_is _ | exact flat_ik _ _ | exact flat_bool _ | exact flat_str _ | exact flat_nils) ?_))))) | (refine flate_cons ?_ ?_; (first | exact TWrite.flat _ | exact TFeedItem.flat _ | exact TIdx.flat _ | exact TVer.flat _ | (repeat (first | exact flatl_nil | (refine flatl_cons (by first | exact flat_is _ | exact flat_ik _ _ | exact flat_bool _ | exact flat_str _ | exact flat_nils) ?_))))) | refine flate_app ?_ ?_))))); done)) (by first | exact flatO_nil | (intro _; exact flatO_nil) | (intro _; first | exact flat_is _ | exact flat_ik _ _ | exact flat_bool _ | exact flat_str _ | exact flat_nils) | (intro _; refine flat_tup ?_; (repeat (first | exact flatl_nil | (refine flatl_cons (by first | (first | exact flat_is _ | exact flat_ik _ _ | exact flat_bool _ | exact flat_str _ | exact flat_nils) | (refine flat_agg ?_; (repeat (first | exact flatl_nil | (refine flatl_cons (by first | exact flat_is _ | exact flat_ik _ _ | exact flat_bool _ | exact flat_str _ | exact flat_nils) ?_))))) ?_))); done) | (intro _; refine flat_agg ?_; (repeat (first | exact flatl_nil | (refine flatl_cons (by first | exact flat_is _ | exact flat_ik _ _ | exact flat_bool _ | exact flat_str _ | exact flat_nils) ?_))); done) | ((repeat (first | exact flatO_nil | (refine flatO_cons (flatO_box ?_) ?_; (repeat (first | exact flatl_nil | (refine flatl_cons (by first | exact flat_is _ | exact flat_ik _ _ | exact flat_bool _ | exact flat_str _ | exact flat_nils) ?_)))) | (refine flatO_cons (flatO_arr ?_) ?_; (repeat (first | exact flate_nil | (refine flate_map (fun _ => ?_); (first | exact TWrite.flat _ | exact TFeedItem.flat _ | exact TIdx.flat _ | exact TVer.flat _ | (repeat (first | exact flatl_nil | (refine flatl_cons (by first | exact flat_is _ | exact flat_ik _ _ | exact flat_bool _ | exact flat_str _ | exact flat_nils) ?_))))) | (refine flate_rep ?_; (first | exact TWrite.flat _ | exact TFeedItem.flat _ | exact TIdx.flat _ | exact TVer.flat _ | (repeat (first | exact flatl_nil | (refine flatl_cons (by first | exact flat_is _ | exact flat_ik _ _ | exact flat_bool _ | exact flat_str _ | exact flat_nils) ?_))))) | (refine flate_cons ?_ ?_; (first | exact TWrite.flat _ | exact TFeedItem.flat _ | exact TIdx.flat _ | exact TVer.flat _ | (repeat (first | exact flatl_nil | (refine flatl_cons (by first | exact flat_is _ | exact flat_ik _ _ | exact flat_bool _ | exact flat_str _ | exact flat_nils) ?_))))) | refine flate_app ?_ ?_))))); done) | (intro _; (repeat (first | exact flatO_nil | (refine flatO_cons (flatO_box ?_) ?_; (repeat (first | exact flatl_nil | (refine flatl_cons (by first | exact flat_is _ | exact flat_ik _ _ | exact flat_bool _ | exact flat_str _ | exact flat_nils) ?_)))) | (refine flatO_cons (flatO_arr ?_) ?_; (repeat (first | exact flate_nil | (refine flate_map (fun _ => ?_); (first | exact TWrite.flat _ | exact TFeedItem.flat _ | exact TIdx.flat _ | exact TVer.flat _ | (repeat (first | exact flatl_nil | (refine flatl_cons (by first | exact flat_is _ | exact flat_ik _ _ | exact flat_bool _ | exact flat_str _ | exact flat_nils) ?_))))) | (refine flate_rep ?_; (first | exact TWrite.flat _ | exact TFeedItem.flat _ | exact TIdx.flat _ | exact TVer.flat _ | (repeat (first | exact flatl_nil | (refine flatl_cons (by first | exact flat_is _ | exact flat_ik _ _ | exact flat_bool _ | exact flat_str _ | exact flat_nils) ?_))))) | (refine flate_cons ?_ ?_; (first | exact TWrite.flat _ | exact TFeedItem.flat _ | exact TIdx.flat _ | exact TVer.flat _ | (repeat (first | exact flatl_nil | (refine flatl_cons (by first | exact flat_is _ | exact flat_ik _ _ | exact flat_bool _ | exact flat_str _ | exact flat_nils) ?_))))) | refine flate_app ?_ ?_))))); done)) (by first | exact flatO_nil | (intro _; exact flatO_nil) | (intro _; first | exact flat_is _ | exact flat_ik _ _ | exact flat_bool _ | exact flat_str _ | exact flat_nils) | (intro _; refine flat_tup ?_; (repeat (first | exact flatl_nil | (refine flatl_cons (by first | (first | exact flat_is _ | exact flat_ik _ _ | exact flat_bool _ | exact flat_str _ | exact flat_nils) | (refine flat_agg ?_; (repeat (first | exact flatl_nil | (refine flatl_cons (by first | exact flat_is _ | exact flat_ik _ _ | exact flat_bool _ | exact flat_str _ | exact flat_nils) ?_))))) ?_))); done) | (intro _; refine flat_agg ?_; (repeat (first | exact flatl_nil | (refine flatl_cons (by first | exact flat_is _ | exact flat_ik _ _ | exact flat_bool _ | exact flat_str _ | exact flat_nils) ?_))); done) | ((repeat (first | exact flatO_nil | (refine flatO_cons (flatO_box ?_) ?_; (repeat (first | exact flatl_nil | (refine flatl_cons (by first | exact flat_is _ | exact flat_ik _ _ | exact flat_bool _ | exact flat_str _ | exact flat_nils) ?_)))) | (refine flatO_cons (flatO_arr ?_) ?_; (repeat (first | exact flate_nil | (refine flate_map (fun _ => ?_); (first | exact TWrite.flat _ | exact TFeedItem.flat _ | exact TIdx.flat _ | exact TVer.flat _ | (repeat (first | exact flatl_nil | (refine flatl_cons (by first | exact flat_is _ | exact flat_ik _ _ | exact flat_bool _ | exact flat_str _ | exact flat_nils) ?_))))) | (refine flate_rep ?_; (first | exact TWrite.flat _ | exact TFeedItem.flat _ | exact TIdx.flat _ | exact TVer.flat _ | (repeat (first | exact flatl_nil | (refine flatl_cons (by first | exact flat_is _ | exact flat_ik _ _ | exact flat_bool _ | exact flat_str _ | exact flat_nils) ?_))))) | (refine flate_cons ?_ ?_; (first | exact TWrite.flat _ | exact TFeedItem.flat _ | exact TIdx.flat _ | exact TVer.flat _ | (repeat (first | exact flatl_nil | (refine flatl_cons (by first | exact flat_is _ | exact flat_ik _ _ | exact flat_bool _ | exact flat_str _ | exact flat_nils) ?_))))) | refine flate_app ?_ ?_))))); done) | (intro _; (repeat (first | exact flatO_nil | (refine flatO_cons (flatO_box ?_) ?_; (repeat (first | exact flatl_nil | (refine flatl_cons (by first | exact flat_is _ | exact flat_ik _ _ | exact flat_bool _ | exact flat_str _ | exact flat_nils) ?_)))) | (refine flatO_cons (flatO_arr ?_) ?_; (repeat (first | exact flate_nil | (refine flate_map (fun _ => ?_); (first | exact TWrite.flat _ | exact TFeedItem.flat _ | exact TIdx.flat _ | exact TVer.flat _ | (repeat (first | exact flatl_nil | (refine flatl_cons (by first | exact flat_is _ | exact flat_ik _ _ | exact flat_bool _ | exact flat_str _ | exact flat_nils) ?_))))) | (refine flate_rep ?_; (first | exact TWrite.flat _ | exact TFeedItem.flat _ | exact TIdx.flat _ | exact TVer.flat _ | (repeat (first | exact flatl_nil | (refine flatl_cons (by first | exact flat_is _ | exact flat_ik _ _ | exact flat_bool _ | exact flat_str _ | exact flat_nils) ?_))))) | (refine flate_cons ?_ ?_; (first | exact TWrite.flat _ | exact TFeedItem.flat _ | exact TIdx.flat _ | exact TVer.flat _ | (repeat (first | exact flatl_nil | (refine flatl_cons (by first | exact flat_is _ | exact flat_ik _ _ | exact flat_bool _ | exact flat_str _ | exact flat_nils) ?_))))) | refine flate_app ?_ ?_))))); done)) ?_
      intro x46 ok46
      refine sq_plain rfl rfl rfl (w_move rfl (ev_tmp rfl)) ?_
      refine sq_plain rfl rfl rfl (w_extract rfl (ev_tmp rfl) rfl) ?_
      refine sq_plain rfl rfl rfl (w_extract rfl (ev_tmp rfl) rfl) ?_
      refine sq_plain rfl rfl rfl (w_extract rfl (ev_tmp rfl) rfl) ?_
      refine sq_alloc rfl rfl rfl rfl Try.zeroValue33 rfl ?_
      intro b11
      refine sq_storeB0 0 rfl rfl rfl (ev_tmp rfl) (ev_tmp rfl) (as_agg _) rfl Try.sizeOf33 rfl ?_
      refine sq_plain rfl rfl rfl (w_assign rfl (ev_tmp rfl)) ?_
      refine sq_plain rfl rfl rfl (w_assign rfl (ev_tmp rfl)) ?_
      refine sq_nil ?_
      refine awp_seq ?_
      refine awp_seq ?_
      refine awp_own (by first | (simp only [TMove.ow, TMove.ocs, boolO, pick, List.eraseIdx_cons_zero, List.eraseIdx_cons_succ, List.set_cons_zero, List.set_cons_succ, List.cons_append, List.nil_append, List.getElem?_cons_zero, List.getElem?_cons_succ, List.append_nil, List.take_succ_cons, List.take_zero, List.drop_succ_cons, List.drop_zero]; exact rfl) | exact rfl) ?_
      refine awp_region ?_
      refine sq_plain rfl rfl rfl (w_loadA 0 rfl (ev_tmp rfl) rfl Try.isAgg33 Try.sizeOf33 rfl) ?_
      refine sq_plain rfl rfl rfl (w_loadA 8 rfl (ev_tmp rfl) rfl Try.isAgg33 Try.sizeOf33 rfl) ?_
      refine sq_plain rfl rfl rfl (w_callB rfl Try.call14 rfl (eqMove_spec _ _) (flat_bool _) (evlb_cons (evb_lt (ev_tmp rfl) (lt_agg (lc_cons lt_refl (lc_cons lt_refl (lc_cons lt_refl (lc_cons (lt_arr (List.mem_of_getElem? (i := 1) rfl) le_refl_e) (lc_cons (lt_arr (List.mem_of_getElem? (i := 2) rfl) le_refl_e) (lc_cons lt_refl (lc_cons lt_refl lc_nil))))))))) (evlb_cons (evb (ev_tmp rfl)) evlb_nil))) ?_
      refine sq_plain rfl rfl rfl (w_not rfl (ev_tmp rfl)) ?_
      refine sq_plain rfl rfl rfl (w_move rfl (ev_tmp rfl)) ?_
      refine sq_grd rfl rfl (guard_f rfl rfl rfl) (fun hc => w_move rfl (ev_tmp rfl)) ?_
      refine sq_grd rfl rfl (guard_f rfl rfl rfl) (fun hc => w_move rfl (ev_tmp rfl)) ?_
      refine sq_grd rfl rfl (guard_f rfl rfl rfl) (fun hc => w_callB rfl Try.call21 rfl (eqBoolS_spec _ _) (flat_bool _) (evlb_cons (evb_arr 3 (ev_whn rfl hc) rfl) (evlb_cons (evb (ev_whn rfl hc)) evlb_nil))) ?_
      refine sq_grd rfl rfl (guard_f rfl rfl rfl) (fun hc => w_not rfl (ev_whn rfl hc)) ?_
      refine sq_plain rfl rfl rfl (w_or rfl (ev_tmp rfl) (evif_w rfl)) ?_
      refine sq_plain rfl rfl rfl (w_move rfl (ev_tmp rfl)) ?_
      refine sq_grd rfl rfl (guard_f rfl rfl rfl) (fun hc => w_move rfl (ev_tmp rfl)) ?_
      refine sq_grd rfl rfl (guard_f rfl rfl rfl) (fun hc => w_move rfl (ev_tmp rfl)) ?_
      refine sq_grd rfl rfl (guard_f rfl rfl rfl) (fun hc => w_bneq rfl Try.underlying4 (ev_whn rfl hc) (ev_whn rfl hc)) ?_
      refine sq_plain rfl rfl rfl (w_or rfl (ev_tmp rfl) (evif_w rfl)) ?_
      refine sq_nil ?_
      refine awp_cond (ev_tmp rfl) ?_ ?_
      · intro h64
        refine awp_seq ?_
        refine awp_region ?_
        refine sq_plain rfl rfl rfl (w_assign rfl ev_cb) ?_
        refine sq_nil ?_
        refine awp_ret ?_
        exact retR rfl (rv_tmp' rfl (by first | rfl | (exfalso; simp_all [playMove_eq]; done) | (exfalso; simp_all [playMove_eq]; omega)))
      · intro h64
        refine awp_skip ?_
        refine awp_seq ?_
        refine awp_seq ?_
        refine awp_region_any (by kernel_rfl) (by kernel_rfl) rfl ?_
        refine ch_plain rfl rfl (w_loadA 5 rfl (ev_tmp rfl) rfl Try.isAgg33 Try.sizeOf33 rfl) ?_
        refine ch_plain rfl rfl (w_loadA 9 rfl (ev_tmp rfl) rfl Try.isAgg24 Try.sizeOf24 rfl) ?_
        refine ch_plain rfl rfl (w_call rfl Try.call11 rfl (toMove_spec _ (by first | assumption | omega | (simp only [] at *; omega))) (evl_cons (ev_tmp rfl) evl_nil)) ?_
        refine ch_plain rfl rfl (w_callB rfl Try.call14 rfl (eqMove_spec _ _) (flat_bool _) (evlb_cons (evb_lt (ev_tmp rfl) (lt_agg (lc_cons lt_refl (lc_cons lt_refl (lc_cons lt_refl (lc_cons (lt_arr (List.mem_of_getElem? (i := 6) rfl) le_refl_e) (lc_cons (lt_arr (List.mem_of_getElem? (i := 7) rfl) le_refl_e) (lc_cons lt_refl (lc_cons lt_refl lc_nil))))))))) (evlb_cons (evb (ev_tmp rfl)) evlb_nil))) ?_
        refine ch_plain rfl rfl (w_not rfl (ev_tmp rfl)) ?_
        refine ch_nil ?_
        refine awp_cond (ev_tmp rfl) ?_ ?_
        · intro h69
          refine awp_seq ?_
          refine awp_region ?_
          refine sq_plain rfl rfl rfl (w_assign rfl ev_cb) ?_
          refine sq_nil ?_
          refine awp_ret ?_
          exact retR rfl (rv_tmp' rfl (by first | rfl | (exfalso; simp_all [playMove_eq]; done) | (exfalso; simp_all [playMove_eq]; omega)))
        · intro h69
          refine awp_skip ?_
          refine awp_seq ?_
          refine awp_seq ?_
          refine awp_region ?_
          refine sq_plain rfl rfl rfl (w_move rfl (ev_tmp rfl)) ?_
          refine sq_plain rfl rfl rfl (w_move rfl (ev_tmp rfl)) ?_
          refine sq_plain rfl rfl rfl (w_call rfl Try.call19 rfl (toMoveActS_spec _ (by first | assumption | omega)) (evl_cons (ev_tmp rfl) evl_nil)) ?_
          refine sq_plain rfl rfl rfl (w_callB rfl Try.call22 rfl (eqMoveActS_spec _ _) (flat_bool _) (evlb_cons (evb_arr 4 (ev_tmp rfl) rfl) (evlb_cons (evb (ev_tmp rfl)) evlb_nil))) ?_
          refine sq_plain rfl rfl rfl (w_not rfl (ev_tmp rfl)) ?_
          refine sq_nil ?_
          refine awp_cond (ev_tmp rfl) ?_ ?_
          · intro h74
            refine awp_seq ?_
            refine awp_region ?_
            refine sq_plain rfl rfl rfl (w_assign rfl ev_cb) ?_
            refine sq_nil ?_
            refine awp_ret ?_
            exact retR rfl (rv_tmp' rfl (by first | rfl | (exfalso; simp_all [playMove_eq]; done) | (exfalso; simp_all [playMove_eq]; omega)))
          · intro h74
            refine awp_skip ?_
            refine awp_seq ?_
            refine awp_region ?_
            refine sq_plain rfl rfl rfl (w_assign rfl ev_ci) ?_
            refine sq_nil ?_
            refine awp_seq ?_
            refine awp_own (by first | (simp only [TMove.ow, TMove.ocs, boolO, pick, List.eraseIdx_cons_zero, List.eraseIdx_cons_succ, List.set_cons_zero, List.set_cons_succ, List.cons_append, List.nil_append, List.getElem?_cons_zero, List.getElem?_cons_succ, List.append_nil, List.take_succ_cons, List.take_zero, List.drop_succ_cons, List.drop_zero]; exact rfl) | exact rfl) ?_
            refine awp_region ?_
            refine sq_plain rfl rfl rfl (w_loadA 5 rfl (ev_tmp rfl) rfl Try.isAgg33 Try.sizeOf33 rfl) ?_
            refine sq_plain rfl rfl rfl (w_move rfl (ev_tmp rfl)) ?_
            refine sq_callG [6, 6] rfl rfl rfl rfl Try.call15 rfl (markMove_spec _ _ _ (by first | assumption | first | omega | (refine ⟨by omega, ?_⟩; simp only [marks_len] at *; omega))) (evl_cons (ev_tmp rfl) (evl_cons (ev_tmp rfl) evl_nil)) rfl ?_
            intro x77 ok77
            refine sq_plain rfl rfl rfl (w_assign rfl (ev_tmp rfl)) ?_
            refine sq_nil ?_
            refine awp_seq ?_
            refine awp_own (by first | (simp only [TMove.ow, TMove.ocs, boolO, pick, List.eraseIdx_cons_zero, List.eraseIdx_cons_succ, List.set_cons_zero, List.set_cons_succ, List.cons_append, List.nil_append, List.getElem?_cons_zero, List.getElem?_cons_succ, List.append_nil, List.take_succ_cons, List.take_zero, List.drop_succ_cons, List.drop_zero]; exact rfl) | exact rfl) ?_
            refine awp_region ?_
            refine sq_plain rfl rfl rfl (w_move rfl (ev_tmp rfl)) ?_
            refine sq_plain rfl rfl rfl (w_move rfl (ev_tmp rfl)) ?_
            refine sq_callG [6] rfl rfl rfl rfl Try.call23 rfl (markMoveActS_spec _ l (m.markN 1) ⟨by omega, by unfold TMove.markN; omega⟩) (evl_cons (ev_tmp rfl) (evl_cons (ev_tmp rfl) evl_nil)) rfl ?_
            intro x80 ok80
            refine sq_plain rfl rfl rfl (w_assign rfl (ev_tmp rfl)) ?_
            refine sq_nil ?_
            refine awp_seq ?_
            refine awp_seq ?_
            refine awp_region ?_
            refine sq_plain rfl rfl rfl (w_move rfl (ev_tmp rfl)) ?_
            refine sq_plain rfl rfl rfl (w_lss rfl (ev_tmp rfl) ev_ci) ?_
            refine sq_plain rfl rfl rfl (w_move rfl (ev_tmp rfl)) ?_
            refine sq_grd rfl rfl (guard_f rfl rfl rfl) (fun hc => w_loadA 3 rfl (ev_tmp rfl) rfl Try.isAgg33 Try.sizeOf33 rfl) ?_
            refine sq_grd rfl rfl (guard_f rfl rfl rfl) (fun hc => w_loadA 8 rfl (ev_tmp rfl) rfl Try.isAgg33 Try.sizeOf33 rfl) ?_
            refine sq_grd rfl rfl (guard_f rfl rfl rfl) (fun hc => w_callB rfl Try.call14 rfl (eqMove_spec _ _) (flat_bool _) (evlb_cons (evb_lt (ev_whn rfl hc) (lt_agg (lc_cons lt_refl (lc_cons lt_refl (lc_cons lt_refl (lc_cons (lt_arr (List.mem_of_getElem? (i := 4) rfl) le_refl_e) (lc_cons (lt_arr (List.mem_of_getElem? (i := 5) rfl) le_refl_e) (lc_cons lt_refl (lc_cons lt_refl lc_nil))))))))) (evlb_cons (evb (ev_whn rfl hc)) evlb_nil))) ?_
            refine sq_grd rfl rfl (guard_f rfl rfl rfl) (fun hc => w_not rfl (ev_whn rfl hc)) ?_
            refine sq_plain rfl rfl rfl (w_or rfl (ev_tmp rfl) (evif_w rfl)) ?_
            refine sq_plain rfl rfl rfl (w_move rfl (ev_tmp rfl)) ?_
            refine sq_grd rfl rfl (guard_f rfl rfl rfl) (fun hc => w_move rfl (ev_tmp rfl)) ?_
            refine sq_grd rfl rfl (guard_f rfl rfl rfl) (fun hc => w_move rfl (ev_tmp rfl)) ?_
            refine sq_grd rfl rfl (guard_f rfl rfl rfl) (fun hc => w_callB rfl Try.call21 rfl (eqBoolS_spec _ _) (flat_bool _) (evlb_cons (evb_arr 6 (ev_whn rfl hc) rfl) (evlb_cons (evb (ev_whn rfl hc)) evlb_nil))) ?_
            refine sq_grd rfl rfl (guard_f rfl rfl rfl) (fun hc => w_not rfl (ev_whn rfl hc)) ?_
            refine sq_plain rfl rfl rfl (w_or rfl (ev_tmp rfl) (evif_w rfl)) ?_
            refine sq_plain rfl rfl rfl (w_move rfl (ev_tmp rfl)) ?_
            refine sq_grd rfl rfl (guard_f rfl rfl rfl) (fun hc => w_move rfl (ev_tmp rfl)) ?_
            refine sq_grd rfl rfl (guard_f rfl rfl rfl) (fun hc => w_move rfl (ev_tmp rfl)) ?_
            refine sq_grd rfl rfl (guard_f rfl rfl rfl) (fun hc => w_bneq rfl Try.underlying4 (ev_whn rfl hc) (ev_whn rfl hc)) ?_
            refine sq_plain rfl rfl rfl (w_or rfl (ev_tmp rfl) (evif_w rfl)) ?_
            refine sq_nil ?_
            refine awp_cond (ev_tmp rfl) ?_ ?_
            · intro h99
              refine awp_seq ?_
              refine awp_region ?_
              refine sq_plain rfl rfl rfl (w_assign rfl ev_cb) ?_
              refine sq_nil ?_
              refine awp_ret ?_
              exact retR rfl (rv_tmp' rfl (by first | rfl | (exfalso; simp_all [playMove_eq]; done) | (exfalso; simp_all [playMove_eq]; omega)))
            · intro h99
              refine awp_skip ?_
              refine awp_seq ?_
              refine awp_region ?_
              refine sq_plain rfl rfl rfl (w_assign rfl ev_ci) ?_
              refine sq_nil ?_
              refine awp_seq ?_
              refine awp_own (by first | (simp only [TMove.ow, TMove.ocs, boolO, pick, List.eraseIdx_cons_zero, List.eraseIdx_cons_succ, List.set_cons_zero, List.set_cons_succ, List.cons_append, List.nil_append, List.getElem?_cons_zero, List.getElem?_cons_succ, List.append_nil, List.take_succ_cons, List.take_zero, List.drop_succ_cons, List.drop_zero]; exact rfl) | exact rfl) ?_
              refine awp_region ?_
              refine sq_plain rfl rfl rfl (w_loadA 3 rfl (ev_tmp rfl) rfl Try.isAgg33 Try.sizeOf33 rfl) ?_
              refine sq_plain rfl rfl rfl (w_move rfl (ev_tmp rfl)) ?_
              refine sq_callG [4, 4] rfl rfl rfl rfl Try.call15 rfl (markMove_spec _ _ _ (by first | assumption | first | omega | (refine ⟨by omega, ?_⟩; simp only [marks_len] at *; omega))) (evl_cons (ev_tmp rfl) (evl_cons (ev_tmp rfl) evl_nil)) rfl ?_
              intro x102 ok102
              refine sq_plain rfl rfl rfl (w_assign rfl (ev_tmp rfl)) ?_
              refine sq_nil ?_
              refine awp_seq ?_
              refine awp_own (by first | (simp only [TMove.ow, TMove.ocs, boolO, pick, List.eraseIdx_cons_zero, List.eraseIdx_cons_succ, List.set_cons_zero, List.set_cons_succ, List.cons_append, List.nil_append, List.getElem?_cons_zero, List.getElem?_cons_succ, List.append_nil, List.take_succ_cons, List.take_zero, List.drop_succ_cons, List.drop_zero]; exact rfl) | exact rfl) ?_
              refine awp_region ?_
              refine sq_plain rfl rfl rfl (w_move rfl (ev_tmp rfl)) ?_
              refine sq_plain rfl rfl rfl (w_move rfl (ev_tmp rfl)) ?_
              refine sq_callG [6] rfl rfl rfl rfl Try.call24 rfl (markBoolS_spec _ (playMove m l).2.1 ((playMove m l).1.markN 1) ⟨by omega, by unfold TMove.markN; omega⟩) (evl_cons (ev_tmp rfl) (evl_cons (ev_tmp rfl) evl_nil)) rfl ?_
              intro x105 ok105
              refine sq_plain rfl rfl rfl (w_assign rfl (ev_tmp rfl)) ?_
              refine sq_nil ?_
              refine awp_seq ?_
              refine awp_region ?_
              refine sq_plain rfl rfl rfl (w_assign rfl ev_ci) ?_
              refine sq_nil ?_
              refine awp_seq ?_
              refine awp_own (by first | (simp only [TMove.ow, TMove.ocs, boolO, pick, List.eraseIdx_cons_zero, List.eraseIdx_cons_succ, List.set_cons_zero, List.set_cons_succ, List.cons_append, List.nil_append, List.getElem?_cons_zero, List.getElem?_cons_succ, List.append_nil, List.take_succ_cons, List.take_zero, List.drop_succ_cons, List.drop_zero]; exact rfl) | exact rfl) ?_
              refine awp_region ?_
              refine sq_plain rfl rfl rfl (w_loadA 6 rfl (ev_tmp rfl) rfl Try.isAgg33 Try.sizeOf33 rfl) ?_
              refine sq_plain rfl rfl rfl (w_move rfl (ev_tmp rfl)) ?_
              refine sq_plain rfl rfl rfl (w_callB rfl Try.call16 rfl (heldMove_spec (playMove m l).1 1 hN) (flat_ik _ _) (evlb_cons (evb_lt (ev_tmp rfl) (lt_agg (lc_cons lt_refl (lc_cons lt_refl (lc_cons lt_refl (lc_cons (lt_arr (List.mem_of_getElem? (i := 1) rfl) le_refl_e) (lc_cons (lt_arr (List.mem_of_getElem? (i := 2) rfl) le_refl_e) (lc_cons lt_refl (lc_cons lt_refl lc_nil))))))))) (evlb_cons (evb (ev_tmp rfl)) evlb_nil))) ?_
              refine sq_plain rfl rfl rfl (w_assign rfl (ev_tmp rfl)) ?_
              refine sq_nil ?_
              refine awp_seq ?_
              refine awp_seq ?_
              refine awp_region ?_
              refine sq_plain rfl rfl rfl (w_move rfl (ev_tmp rfl)) ?_
              refine sq_plain rfl rfl rfl (w_lss rfl (ev_tmp rfl) ev_ci) ?_
              refine sq_nil ?_
              refine awp_cond (ev_tmp rfl) ?_ ?_
              · intro h110
                have k110 := of_decide_eq_true h110; try simp only [List.length_map] at k110
                refine awp_seq ?_
                refine awp_region ?_
                refine sq_plain rfl rfl rfl (w_assign rfl ev_cb) ?_
                refine sq_nil ?_
                refine awp_ret ?_
                exact retR rfl (rv_tmp' rfl (by first | rfl | (exfalso; simp_all [playMove_eq]; done) | (exfalso; simp_all [playMove_eq]; omega)))
              · intro h110
                have k110 := of_decide_eq_false h110; try simp only [List.length_map] at k110
                refine awp_skip ?_
                refine awp_seq ?_
                refine awp_region ?_
                refine sq_plain rfl rfl rfl (w_move rfl (ev_tmp rfl)) ?_
                refine sq_plain rfl rfl rfl (w_move rfl (ev_tmp rfl)) ?_
                refine sq_plain rfl rfl rfl (w_callB rfl Try.call25 rfl (heldBoolS_spec (playMove m l).2.1.length ((playMove m l).1.markN 1) ⟨by omega, by unfold TMove.markN; omega⟩) (flat_ik _ _) (evlb_cons (evb_arr 0 (ev_tmp rfl) rfl) (evlb_cons (evb (ev_tmp rfl)) evlb_nil))) ?_
                refine sq_plain rfl rfl rfl (w_assign rfl (ev_tmp rfl)) ?_
                refine sq_nil ?_
                refine awp_seq ?_
                refine awp_seq ?_
                refine awp_region ?_
                refine sq_plain rfl rfl rfl (w_move rfl (ev_tmp rfl)) ?_
                refine sq_plain rfl rfl rfl (w_lss rfl (ev_tmp rfl) ev_ci) ?_
                refine sq_nil ?_
                refine awp_cond (ev_tmp rfl) ?_ ?_
                · intro h115
                  have k115 := of_decide_eq_true h115; try simp only [List.length_map] at k115
                  refine awp_seq ?_
                  refine awp_region ?_
                  refine sq_plain rfl rfl rfl (w_assign rfl ev_cb) ?_
                  refine sq_nil ?_
                  refine awp_ret ?_
                  exact retR rfl (rv_tmp' rfl (by first | rfl | (exfalso; simp_all [playMove_eq]; done) | (exfalso; simp_all [playMove_eq]; omega)))
                · intro h115
                  have k115 := of_decide_eq_false h115; try simp only [List.length_map] at k115
                  refine awp_skip ?_
                  refine awp_seq ?_
                  refine awp_seq ?_
                  refine awp_region ?_
                  refine sq_plain rfl rfl rfl (w_move rfl (ev_tmp rfl)) ?_
                  refine sq_plain rfl rfl rfl (w_move rfl (ev_tmp rfl)) ?_
                  refine sq_plain rfl rfl rfl (w_neq rfl (ev_tmp rfl) (ev_tmp rfl)) ?_
                  refine sq_nil ?_
                  refine awp_cond (ev_tmp rfl) ?_ ?_
                  · intro h118
                    have k118 := ne_of_bne h118; try simp only [List.length_map] at k118
                    refine awp_seq ?_
                    refine awp_region ?_
                    refine sq_plain rfl rfl rfl (w_assign rfl ev_cb) ?_
                    refine sq_nil ?_
                    refine awp_ret ?_
                    exact retR rfl (rv_tmp' rfl (by first | rfl | (exfalso; simp_all [playMove_eq]; done) | (exfalso; simp_all [playMove_eq]; omega)))
                  · intro h118
                    have k118 := eq_of_bne_false h118; try simp only [List.length_map] at k118
                    refine awp_skip ?_
                    refine awp_seq ?_
                    refine awp_own (by first | (simp only [TMove.ow, TMove.ocs, boolO, pick, List.eraseIdx_cons_zero, List.eraseIdx_cons_succ, List.set_cons_zero, List.set_cons_succ, List.cons_append, List.nil_append, List.getElem?_cons_zero, List.getElem?_cons_succ, List.append_nil, List.take_succ_cons, List.take_zero, List.drop_succ_cons, List.drop_zero]; exact rfl) | exact rfl) ?_
                    refine awp_region ?_
                    refine sq_plain rfl rfl rfl (w_loadA 9 rfl (ev_tmp rfl) rfl Try.isAgg24 Try.sizeOf24 rfl) ?_
                    refine sq_plain rfl rfl rfl (w_call rfl Try.call11 rfl (toMove_spec _ (by first | assumption | omega | (simp only [] at *; omega))) (evl_cons (ev_tmp rfl) evl_nil)) ?_
                    refine sq_plain rfl rfl rfl (w_move rfl (ev_tmp rfl)) ?_
                    refine sq_plain rfl rfl rfl (w_call rfl Try.call19 rfl (toMoveActS_spec _ (by first | assumption | omega)) (evl_cons (ev_tmp rfl) evl_nil)) ?_
                    refine sq_callG [] rfl rfl rfl rfl Try.call20 rfl (playMove_own _ _ (by first | assumption | omega) (by first | assumption | omega)) (evl_cons (ev_tmp rfl) (evl_cons (ev_tmp rfl) evl_nil)) rfl ?_
                    intro x124 ok124
                    refine sq_plain rfl rfl rfl (w_move rfl (ev_tmp rfl)) ?_
                    refine sq_plain rfl rfl rfl (w_extract rfl (ev_tmp rfl) rfl) ?_
                    refine sq_plain rfl rfl rfl (w_extract rfl (ev_tmp rfl) rfl) ?_
                    refine sq_plain rfl rfl rfl (w_extract rfl (ev_tmp rfl) rfl) ?_
                    refine sq_alloc rfl rfl rfl rfl Try.zeroValue33 rfl ?_
                    intro b17
                    refine sq_storeB0 0 rfl rfl rfl (ev_tmp rfl) (ev_tmp rfl) (as_agg _) rfl Try.sizeOf33 rfl ?_
                    refine sq_plain rfl rfl rfl (w_assign rfl (ev_tmp rfl)) ?_
                    refine sq_plain rfl rfl rfl (w_assign rfl (ev_tmp rfl)) ?_
                    refine sq_nil ?_
                    refine awp_seq ?_
                    refine awp_seq ?_
                    refine awp_own (by first | (simp only [TMove.ow, TMove.ocs, boolO, pick, List.eraseIdx_cons_zero, List.eraseIdx_cons_succ, List.set_cons_zero, List.set_cons_succ, List.cons_append, List.nil_append, List.getElem?_cons_zero, List.getElem?_cons_succ, List.append_nil, List.take_succ_cons, List.take_zero, List.drop_succ_cons, List.drop_zero]; exact rfl) | exact rfl) ?_
                    refine awp_region ?_
                    refine sq_plain rfl rfl rfl (w_loadA 0 rfl (ev_tmp rfl) rfl Try.isAgg33 Try.sizeOf33 rfl) ?_
                    refine sq_plain rfl rfl rfl (w_loadA 12 rfl (ev_tmp rfl) rfl Try.isAgg33 Try.sizeOf33 rfl) ?_
                    refine sq_plain rfl rfl rfl (w_callB rfl Try.call14 rfl (eqMove_spec _ _) (flat_bool _) (evlb_cons (evb_lt (ev_tmp rfl) (lt_agg (lc_cons lt_refl (lc_cons lt_refl (lc_cons lt_refl (lc_cons (lt_arr (List.mem_of_getElem? (i := 1) rfl) le_refl_e) (lc_cons (lt_arr (List.mem_of_getElem? (i := 2) rfl) le_refl_e) (lc_cons lt_refl (lc_cons lt_refl lc_nil))))))))) (evlb_cons (evb (ev_tmp rfl)) evlb_nil))) ?_
                    refine sq_plain rfl rfl rfl (w_not rfl (ev_tmp rfl)) ?_
                    refine sq_plain rfl rfl rfl (w_move rfl (ev_tmp rfl)) ?_
                    refine sq_grd rfl rfl (guard_f rfl rfl rfl) (fun hc => w_move rfl (ev_tmp rfl)) ?_
                    refine sq_grd rfl rfl (guard_f rfl rfl rfl) (fun hc => w_move rfl (ev_tmp rfl)) ?_
                    refine sq_grd rfl rfl (guard_f rfl rfl rfl) (fun hc => w_callB rfl Try.call21 rfl (eqBoolS_spec _ _) (flat_bool _) (evlb_cons (evb_arr 3 (ev_whn rfl hc) rfl) (evlb_cons (evb (ev_whn rfl hc)) evlb_nil))) ?_
                    refine sq_grd rfl rfl (guard_f rfl rfl rfl) (fun hc => w_not rfl (ev_whn rfl hc)) ?_
                    refine sq_plain rfl rfl rfl (w_or rfl (ev_tmp rfl) (evif_w rfl)) ?_
                    refine sq_plain rfl rfl rfl (w_move rfl (ev_tmp rfl)) ?_
                    refine sq_grd rfl rfl (guard_f rfl rfl rfl) (fun hc => w_move rfl (ev_tmp rfl)) ?_
                    refine sq_grd rfl rfl (guard_f rfl rfl rfl) (fun hc => w_move rfl (ev_tmp rfl)) ?_
                    refine sq_grd rfl rfl (guard_f rfl rfl rfl) (fun hc => w_bneq rfl Try.underlying4 (ev_whn rfl hc) (ev_whn rfl hc)) ?_
                    refine sq_plain rfl rfl rfl (w_or rfl (ev_tmp rfl) (evif_w rfl)) ?_
                    refine sq_nil ?_
                    refine awp_cond (ev_tmp rfl) ?_ ?_
                    · intro h142
                      refine awp_seq ?_
                      refine awp_region ?_
                      refine sq_plain rfl rfl rfl (w_assign rfl ev_cb) ?_
                      refine sq_nil ?_
                      refine awp_ret ?_
                      exact retR rfl (rv_tmp' rfl (by first | rfl | (exfalso; simp_all [playMove_eq]; done) | (exfalso; simp_all [playMove_eq]; omega)))
                    · intro h142
                      refine awp_skip ?_
                      refine awp_seq ?_
                      refine awp_region ?_
                      refine sq_plain rfl rfl rfl (w_assign rfl ev_ci) ?_
                      refine sq_nil ?_
                      refine awp_seq ?_
                      refine awp_region ?_
                      refine sq_plain rfl rfl rfl (w_loadA 10 rfl (ev_tmp rfl) rfl Try.isAgg33 Try.sizeOf33 rfl) ?_
                      refine sq_plain rfl rfl rfl (w_move rfl (ev_tmp rfl)) ?_
                      refine sq_plain rfl rfl rfl (w_callB rfl Try.call16 rfl (heldMove_spec (playMove m l).1 1 hN) (flat_ik _ _) (evlb_cons (evb_lt (ev_tmp rfl) (lt_agg (lc_cons lt_refl (lc_cons lt_refl (lc_cons lt_refl (lc_cons (lt_arr (List.mem_of_getElem? (i := 5) rfl) le_refl_e) (lc_cons (lt_arr (List.mem_of_getElem? (i := 6) rfl) le_refl_e) (lc_cons lt_refl (lc_cons lt_refl lc_nil))))))))) (evlb_cons (evb (ev_tmp rfl)) evlb_nil))) ?_
                      refine sq_plain rfl rfl rfl (w_assign rfl (ev_tmp rfl)) ?_
                      refine sq_nil ?_
                      refine awp_seq ?_
                      refine awp_seq ?_
                      refine awp_region ?_
                      refine sq_plain rfl rfl rfl (w_move rfl (ev_tmp rfl)) ?_
                      refine sq_plain rfl rfl rfl (w_lss rfl (ev_tmp rfl) ev_ci) ?_
                      refine sq_nil ?_
                      refine awp_cond (ev_tmp rfl) ?_ ?_
                      · intro h147
                        have k147 := of_decide_eq_true h147; try simp only [List.length_map] at k147
                        refine awp_seq ?_
                        refine awp_region ?_
                        refine sq_plain rfl rfl rfl (w_assign rfl ev_cb) ?_
                        refine sq_nil ?_
                        refine awp_ret ?_
                        exact retR rfl (rv_tmp' rfl (by first | rfl | (exfalso; simp_all [playMove_eq]; done) | (exfalso; simp_all [playMove_eq]; omega)))
                      · intro h147
                        have k147 := of_decide_eq_false h147; try simp only [List.length_map] at k147
                        refine awp_skip ?_
                        refine awp_seq ?_
                        refine awp_region ?_
                        refine sq_plain rfl rfl rfl (w_move rfl (ev_tmp rfl)) ?_
                        refine sq_plain rfl rfl rfl (w_move rfl (ev_tmp rfl)) ?_
                        refine sq_plain rfl rfl rfl (w_callB rfl Try.call25 rfl (heldBoolS_spec (playMove m l).2.1.length ((playMove m l).1.markN 1) ⟨by omega, by unfold TMove.markN; omega⟩) (flat_ik _ _) (evlb_cons (evb_arr 4 (ev_tmp rfl) rfl) (evlb_cons (evb (ev_tmp rfl)) evlb_nil))) ?_
                        refine sq_plain rfl rfl rfl (w_assign rfl (ev_tmp rfl)) ?_
                        refine sq_nil ?_
                        refine awp_seq ?_
                        refine awp_seq ?_
                        refine awp_region ?_
                        refine sq_plain rfl rfl rfl (w_move rfl (ev_tmp rfl)) ?_
                        refine sq_plain rfl rfl rfl (w_lss rfl (ev_tmp rfl) ev_ci) ?_
                        refine sq_nil ?_
                        refine awp_cond (ev_tmp rfl) ?_ ?_
                        · intro h152
                          have k152 := of_decide_eq_true h152; try simp only [List.length_map] at k152
                          refine awp_seq ?_
                          refine awp_region ?_
                          refine sq_plain rfl rfl rfl (w_assign rfl ev_cb) ?_
                          refine sq_nil ?_
                          refine awp_ret ?_
                          exact retR rfl (rv_tmp' rfl (by first | rfl | (exfalso; simp_all [playMove_eq]; done) | (exfalso; simp_all [playMove_eq]; omega)))
                        · intro h152
                          have k152 := of_decide_eq_false h152; try simp only [List.length_map] at k152
                          refine awp_skip ?_
                          refine awp_seq ?_
                          refine awp_seq ?_
                          refine awp_region ?_
                          refine sq_plain rfl rfl rfl (w_move rfl (ev_tmp rfl)) ?_
                          refine sq_plain rfl rfl rfl (w_move rfl (ev_tmp rfl)) ?_
                          refine sq_plain rfl rfl rfl (w_neq rfl (ev_tmp rfl) (ev_tmp rfl)) ?_
                          refine sq_nil ?_
                          refine awp_cond (ev_tmp rfl) ?_ ?_
                          · intro h155
                            have k155 := ne_of_bne h155; try simp only [List.length_map] at k155
                            refine awp_seq ?_
                            refine awp_region ?_
                            refine sq_plain rfl rfl rfl (w_assign rfl ev_cb) ?_
                            refine sq_nil ?_
                            refine awp_ret ?_
                            exact retR rfl (rv_tmp' rfl (by first | rfl | (exfalso; simp_all [playMove_eq]; done) | (exfalso; simp_all [playMove_eq]; omega)))
                          · intro h155
                            have k155 := eq_of_bne_false h155; try simp only [List.length_map] at k155
                            refine awp_skip ?_
                            refine awp_seq ?_
                            refine awp_region ?_
                            refine sq_plain rfl rfl rfl (w_assign rfl ev_cb) ?_
                            refine sq_nil ?_
                            refine awp_ret ?_
                            exact retR rfl (rv_tmp' rfl (by first | rfl | (exfalso; simp_all [playMove_eq]; done) | (exfalso; simp_all [playMove_eq]; omega)))
end
theorem opens_Str : Opens Try.prog 9 Str (fun s => [AV.str s]) (fun s => s.length ≤ 9223372036854775807) := opens_str Try.underlying9
theorem opens_Int : Opens Try.prog 3 Int (fun n => [AV.int n]) (fun _ => True) := opens_map id (opens_int Try.underlying3) (fun _ => rfl) (fun _ _ => trivial)
theorem opens_Bool : Opens Try.prog 4 Bool (fun s => [AV.bool s]) (fun _ => True) := opens_bool Try.underlying4
theorem opens_TWrite : Opens Try.prog 26 TWrite TWrite.cs (fun c => c.ok) := opens_map (fun p => ⟨p.1, p.2.1, p.2.2.1⟩) (opens_struct Try.underlying26 (by kernel_rfl) (opensF_cons (m := 1) opens_Str rfl (by kernel_rfl) (opensF_cons (m := 1) opens_Str rfl (by kernel_rfl) (opensF_cons (m := 1) opens_Bool rfl (by kernel_rfl) opensF_nil)))) (fun _ => rfl) (fun _ h => by exact ⟨h.1, h.2.1⟩)
theorem opens_LTWrite : Opens Try.prog 22 (List TWrite) (fun l => [AV.list 3 (l.map TWrite.cs)]) (fun l => (∀ x ∈ l, x.ok)) := opens_map id (opens_slice (sz := 3) Try.underlying22 (by kernel_rfl) opens_TWrite (fun _ => rfl)) (fun _ => rfl) (fun _ h => h)
theorem opens_TMove : Opens Try.prog 24 TMove TMove.cs (fun c => c.ok) := opens_map (fun p => ⟨p.1, p.2.1, p.2.2.1, p.2.2.2.1, p.2.2.2.2.1, p.2.2.2.2.2.1, p.2.2.2.2.2.2.1⟩) (opens_struct Try.underlying24 (by kernel_rfl) (opensF_cons (m := 1) opens_Str rfl (by kernel_rfl) (opensF_cons (m := 1) opens_Str rfl (by kernel_rfl) (opensF_cons (m := 1) opens_Int rfl (by kernel_rfl) (opensF_cons (m := 1) opens_LTWrite rfl (by kernel_rfl) (opensF_cons (m := 1) opens_LTWrite rfl (by kernel_rfl) (opensF_cons (m := 1) opens_Str rfl (by kernel_rfl) (opensF_cons (m := 1) opens_Bool rfl (by kernel_rfl) opensF_nil)))))))) (fun _ => rfl) (fun _ h => by exact ⟨h.1, h.2.1, h.2.2.2.1, h.2.2.2.2.1, h.2.2.2.2.2.1⟩)
theorem opens_TMoveAct : Opens Try.prog 28 TMoveAct TMoveAct.cs (fun c => c.ok) := opens_map (fun p => ⟨p.1, p.2.1, p.2.2.1⟩) (opens_struct Try.underlying28 (by kernel_rfl) (opensF_cons (m := 1) opens_Int rfl (by kernel_rfl) (opensF_cons (m := 3) opens_TWrite rfl (by kernel_rfl) (opensF_cons (m := 1) opens_Int rfl (by kernel_rfl) opensF_nil)))) (fun _ => rfl) (fun _ h => by exact h.2.1)
theorem opens_LTMoveAct : Opens Try.prog 44 (List TMoveAct) (fun l => [AV.list 5 (l.map TMoveAct.cs)]) (fun l => (∀ x ∈ l, x.ok)) := opens_map id (opens_slice (sz := 5) Try.underlying44 (by kernel_rfl) opens_TMoveAct (fun _ => rfl)) (fun _ => rfl) (fun _ h => h)
set_option maxRecDepth 100000 in
theorem fnExactPlayMove_lifted (os : Os) (started : os.Started) (H : Type) (enc : TypeId × Value → H) :
    ReturnsInHanded {} Try.checked os 4 .any (Rows.fnExactPlayMoveSpec.pre6 enc Try.prog Try.f4 Rows.fnExactPlayMoveRow.domain false) (Rows.fnExactPlayMoveSpec.post enc Try.prog Try.f4 false true false false) := by
  refine returnsInHanded_of_change (C := Try.checked) (by kernel_rfl) started (by kernel_rfl) Try.func4
    (ChangeSpec.witness6 (enc := enc) (C := Try.checked) false ⟨#[], #[.agg #[.string ⟨#[]⟩, .string ⟨#[]⟩, .int .i64 0, .slice none 0 0, .slice none 0 0, .string ⟨#[]⟩, .bool false], .slice none 0 0], []⟩ 8 (by kernel_rfl) (by kernel_rfl) (by kernel_rfl) (by kernel_rfl)) ?_
  intro W base args ds gs before hval0 hW hcnd _
  have hval : ∀ (j : Nat) t v, Try.f4.params[j]? = some t → args[j]? = some v → Value.okWide Try.prog W .any base t v := hval0
  have hW2 := hW
  obtain ⟨p, q, hA0, hV, rfl, hfz, hnd⟩ := hW
  have hA : DataW.TrodAll enc Try.prog W 0 (fun _ => true) true Try.f4.params.toList args.toList ds p := hA0
  rw [Try.params4] at hA hval
  obtain ⟨v0, vs0, d0, ds0, p0, q0, hargs, rfl, rfl, h0, r0⟩ := trodAll_cons hA
  obtain ⟨v1, vs1, d1, ds1, p1, q1, rfl, rfl, rfl, h1, r1⟩ := trodAll_cons r0
  obtain ⟨rfl, rfl, rfl⟩ := trodAll_nil r1
  obtain rfl : args = #[v0, v1] := by cases args; simp_all
  obtain ⟨rfl, rfl⟩ := trodVars_none hV
  have lt0 : ∀ x ∈ p0, x.block < W.heap.size := by obtain ⟨m, hm⟩ := h0; exact DataW.trod_lt m _ _ _ hm
  obtain ⟨a0, w0, g0⟩ := arg_agg (opens_TMove) Try.underlying24 (hval 0 24 v0 rfl rfl) h0
  have lt1 : ∀ x ∈ p1, x.block < W.heap.size := by obtain ⟨m, hm⟩ := h1; exact DataW.trod_lt m _ _ _ hm
  obtain ⟨a1, w1, g1⟩ := arg_one (opens_LTMoveAct) (by obtain ⟨y1, y2, y3, rfl⟩ := okWide_slice Try.underlying44 (hval 1 44 v1 rfl rfl); rfl) h1
  have hcall := law_calls (fnExactPlayMove_spec a0 w0 a1 w1) (DenV.cons g0 (DenV.cons g1 (DenV.nil _)))
  clear hA0 hval0
  refine Calls.mono hcall fun e W2 ⟨he, bel⟩ => ?_
  subst he
  exact ⟨_, rfl, _, _, _, [], _, [], hW2, trodAll_mk1 (shut_bool Try.underlying4 _), (trodAll_cons_mk (Below.trod (by kernel_rfl : laidOutB Try.prog = true) (by kernel_rfl) (of_decide_eq_true (by kernel_rfl)) h0 bel lt0) (trodAll_cons_mk (Below.trod (by kernel_rfl : laidOutB Try.prog = true) (by kernel_rfl) (of_decide_eq_true (by kernel_rfl)) h1 bel lt1) trodAll_mk0)), rfl, bel.frame _, fun h => by cases h⟩
theorem fnExactPlayMove_and {a b : Bool} (h : a = true) (k : b = true) : (a && b) = true := by rw [h, k]; rfl
set_option maxRecDepth 100000 in
theorem fnExactPlayMove_facts : joinedFacts Try.pinned.checked.prog 4 Try.f4 Rows.fnExactPlayMoveSpec Rows.fnExactPlayMoveRow = true := by
  unfold joinedFacts
  iterate 18 (rw [Bool.and_assoc])
  refine fnExactPlayMove_and ?_ ?_
  · as_aux_lemma => kernel_rfl
  · as_aux_lemma => kernel_rfl
/-- The statement. -/
theorem fnExactPlayMove_proved : Rows.FnExactPlayMoveSaid :=
  OpenClaim.holds_of_wide 4 Try.f4 rfl rfl rfl rfl rfl rfl rfl ⟨rfl, rfl, rfl, rfl, rfl⟩ rfl rfl rfl rfl rfl (by kernel_rfl) Try.func4 fnExactPlayMove_facts
    (of_decide_eq_true (by kernel_rfl)) (by unfold Func.isWrapper; first | (rw [if_pos (by decide +kernel)]; kernel_rfl) | (rw [if_neg (by decide +kernel)]; exact ⟨rfl, rfl⟩))
    (fun os started H enc _ => fnExactPlayMove_lifted os started H enc)
end Go.Proofs.Ytinakggafbidcaa
