/- FnExactFeedCells: for all arguments the program's FeedCells answers what the reference's answers, in memory of its own. No condition. -/
import Derived.Test.YteliahajeokciaaCell6W
import Derived.Test.YteliahajeokciaaTypesW
import Derived.Test.YteliahajeokciaaAvLaw
set_option linter.unusedVariables false
set_option linter.unusedSimpArgs false
set_option maxRecDepth 100000
set_option maxHeartbeats 2000000
namespace Go.Proofs.Yteliahajeokciaa
open Go Go.AV Go.M
open Go.ChangeShapes Go.WideShapes Go.ChangeAt Go.RowKit
section
attribute [local irreducible] OpW OpA OpS AWP FSpec ESpec GSpec OpE RetOk RetOkG RvDen Le Ev GuardIs SrcIs
theorem feedRes_good {q : List TCell} {g : Int} : ∀ {l : List TFeedItem}, goodCells q = true → sizeL TCell.size (feedRes q g l).1 ≤ 9912
  | [], h => good_size h
  | c :: l, h => by
    unfold feedRes feedAll
    split
    · rename_i hn; simp [sizeL]
    · rename_i r hr
      split at hr
      · have := feedRes_good (g := g) (l := l) h
        unfold feedRes at this; rw [hr] at this; exact this
      · split at hr
        · cases hr
        · rename_i hp
          have := feedRes_good (g := g) (l := l) (put_good (by simpa using hp))
          unfold feedRes at this; rw [hr] at this; exact this
theorem feedCells_size (l : List TCell) (w : List TFeedItem) (g : Int) : sizeL TCell.size (feedCells l w g).1 ≤ 9912 := by
  unfold feedCells
  split
  · simp [sizeL]
  · rename_i h
    have h2 := Bool.eq_false_iff.2 h
    simp only [Bool.or_eq_false_iff, Bool.not_eq_false'] at h2
    exact feedRes_good h2.1.1
theorem feedCellsS_spec (l : List TCell) (w : List TFeedItem) (g : Int) (hs : sizeL TCell.size l ≤ 1048576) (hw : sizeL TFeedItem.size w ≤ 1048576) : FSpec Try.prog 75 [AV.list 2 (l.map TCell.cs), AV.list 5 (w.map TFeedItem.cs), AV.int g] (AV.tup [AV.list 2 ((feedCellsS l w g).1.map TCell.cs), AV.bool (feedCellsS l w g).2]) :=
  fspec_of_gspec (feedCellsS_own l w g hs hw) fun x h => lt_tup (lc_cons (nin_lend TCell.lcM h 0 rfl fun o ho => List.mem_cons_of_mem _ ho) (lc_cons lt_refl lc_nil))
theorem fnExactFeedCells_spec (l : List TCell) (hl : ∀ x ∈ l, x.ok) (w : List TFeedItem) (hwk : ∀ x ∈ w, x.ok) (g : Int) (hgw : (Lit.int .i64 g).wf = true) : FSpec Try.prog 8 [AV.list 2 (l.map TCell.cs), AV.list 5 (w.map TFeedItem.cs), AV.int g] (AV.bool true) := by
  refine spec_of_awp Try.func8 rfl Try.ntmps8 rfl ?_
  refine awp_seq ?_
  refine awp_region ?_
  refine sq_plain rfl rfl rfl (w_assign rfl ev_cb) ?_
  refine sq_nil ?_
  refine awp_seq ?_
  refine awp_region ?_
  refine sq_plain rfl rfl rfl (w_assign rfl ev_ci) ?_
  refine sq_nil ?_
  refine awp_seq ?_
  refine awp_region ?_
  refine sq_plain rfl rfl rfl (w_move rfl (ev_tmp rfl)) ?_
  refine sq_plain rfl rfl rfl (w_move rfl (ev_tmp rfl)) ?_
  refine sq_plain rfl rfl rfl (w_call rfl Try.call73 rfl (szCellS_spec _ _ (by first | assumption | trivial) (by first | omega | ((try simp only [List.length_map, List.length_take, List.length_cons, List.length_nil, chunks_len, szR] at *); omega) | (have hc2 := hc; simp only [Bool.and_eq_true, Bool.or_eq_true, Bool.or_eq_false_iff, Bool.and_eq_false_iff, Bool.not_eq_true', Bool.not_eq_false', decide_eq_true_eq, decide_eq_false_iff_not, beq_iff_eq, bne_iff_ne, List.length_map, List.length_take] at hc2; omega)) (by first | omega | ((try simp only [List.length_map, List.length_take, List.length_cons, List.length_nil, chunks_len, szR] at *); omega) | (have hc2 := hc; simp only [Bool.and_eq_true, Bool.or_eq_true, Bool.or_eq_false_iff, Bool.and_eq_false_iff, Bool.not_eq_true', Bool.not_eq_false', decide_eq_true_eq, decide_eq_false_iff_not, beq_iff_eq, bne_iff_ne, List.length_map, List.length_take] at hc2; omega))) (evl_cons (ev_tmp rfl) (evl_cons (ev_tmp rfl) evl_nil))) ?_
  refine sq_plain rfl rfl rfl (w_assign rfl (ev_tmp rfl)) ?_
  refine sq_nil ?_
  refine awp_seq ?_
  refine awp_seq ?_
  refine awp_region ?_
  refine sq_plain rfl rfl rfl (w_move rfl (ev_tmp rfl)) ?_
  refine sq_plain rfl rfl rfl (w_lss rfl (ev_tmp rfl) ev_ci) ?_
  refine sq_nil ?_
  refine awp_cond (ev_tmp rfl) ?_ ?_
  · intro h23
    have k23 := of_decide_eq_true h23; try simp only [List.length_map] at k23
    refine awp_seq ?_
    refine awp_region ?_
    refine sq_plain rfl rfl rfl (w_assign rfl ev_cb) ?_
    refine sq_nil ?_
    refine awp_ret ?_
    exact retR rfl (rv_tmp' rfl (by first | rfl | (exfalso; simp_all [feedCells_eq]; done) | (exfalso; simp_all [feedCells_eq]; omega)))
  · intro h23
    have k23 := of_decide_eq_false h23; try simp only [List.length_map] at k23
    refine awp_skip ?_
    refine awp_seq ?_
    refine awp_region ?_
    refine sq_plain rfl rfl rfl (w_move rfl (ev_tmp rfl)) ?_
    refine sq_plain rfl rfl rfl (w_move rfl (ev_tmp rfl)) ?_
    refine sq_plain rfl rfl rfl (w_call rfl Try.call74 rfl (szFeedItemS_spec _ _ (by first | assumption | trivial) (by first | omega | ((try simp only [List.length_map, List.length_take, List.length_cons, List.length_nil, chunks_len, szR] at *); omega) | (have hc2 := hc; simp only [Bool.and_eq_true, Bool.or_eq_true, Bool.or_eq_false_iff, Bool.and_eq_false_iff, Bool.not_eq_true', Bool.not_eq_false', decide_eq_true_eq, decide_eq_false_iff_not, beq_iff_eq, bne_iff_ne, List.length_map, List.length_take] at hc2; omega)) (by first | omega | ((try simp only [List.length_map, List.length_take, List.length_cons, List.length_nil, chunks_len, szR] at *); omega) | (have hc2 := hc; simp only [Bool.and_eq_true, Bool.or_eq_true, Bool.or_eq_false_iff, Bool.and_eq_false_iff, Bool.not_eq_true', Bool.not_eq_false', decide_eq_true_eq, decide_eq_false_iff_not, beq_iff_eq, bne_iff_ne, List.length_map, List.length_take] at hc2; omega))) (evl_cons (ev_tmp rfl) (evl_cons (ev_tmp rfl) evl_nil))) ?_
    refine sq_plain rfl rfl rfl (w_assign rfl (ev_tmp rfl)) ?_
    refine sq_nil ?_
    refine awp_seq ?_
    refine awp_seq ?_
    refine awp_region ?_
    refine sq_plain rfl rfl rfl (w_move rfl (ev_tmp rfl)) ?_
    refine sq_plain rfl rfl rfl (w_lss rfl (ev_tmp rfl) ev_ci) ?_
    refine sq_nil ?_
    refine awp_cond (ev_tmp rfl) ?_ ?_
    · intro h28
      have k28 := of_decide_eq_true h28; try simp only [List.length_map] at k28
      refine awp_seq ?_
      refine awp_region ?_
      refine sq_plain rfl rfl rfl (w_assign rfl ev_cb) ?_
      refine sq_nil ?_
      refine awp_ret ?_
      exact retR rfl (rv_tmp' rfl (by first | rfl | (exfalso; simp_all [feedCells_eq]; done) | (exfalso; simp_all [feedCells_eq]; omega)))
    · intro h28
      have k28 := of_decide_eq_false h28; try simp only [List.length_map] at k28
      have hss : sizeL TCell.size l ≤ 1048576 ∧ sizeL TFeedItem.size w ≤ 1048576 := by simp only [szR] at k28; split at k28 <;> omega
      obtain ⟨hs, hw⟩ := hss
      have hfs := feedCells_size l w g
      have hwl : w.length ≤ 1048576 := Nat.le_trans sizeL_len hw
      have hps := cellsN_size l 1
      have hpl := countN_le TCell.markEN_le l 1
      have hps2 := cellsN_size (feedCells l w g).1 1
      have hpl2 := countN_le TCell.markEN_le (feedCells l w g).1 1
      have hX : 0 ≤ (1 : Int) ∧ countN TCell.markEN l 1 ≤ 4611686018427387904 := ⟨by omega, by omega⟩
      have hN : 0 ≤ (1 : Int) ∧ countN TCell.markEN (feedCells l w g).1 1 ≤ 4611686018427387904 := ⟨by omega, by omega⟩
      have hF : 0 ≤ countN TCell.markEN l 1 ∧ countN TCell.markEN l 1 + 5 * w.length ≤ 4611686018427387904 := ⟨by omega, by omega⟩
      have hN0 : ¬ (countN TCell.markEN (feedCells l w g).1 1 < 0) := by omega
      have hF0 : ¬ (countN TCell.markEN l 1 + 5 * w.length < 0) := by omega
      refine awp_skip ?_
      refine awp_seq ?_
      refine awp_region ?_
      refine sq_plain rfl rfl rfl (w_move rfl (ev_tmp rfl)) ?_
      refine sq_plain rfl rfl rfl (w_call rfl Try.call76 rfl (toCellS_spec l hs) (evl_cons (ev_tmp rfl) evl_nil)) ?_
      refine sq_plain rfl rfl rfl (w_move rfl (ev_tmp rfl)) ?_
      refine sq_plain rfl rfl rfl (w_call rfl Try.call77 rfl (toFeedItemS_spec w hw) (evl_cons (ev_tmp rfl) evl_nil)) ?_
      refine sq_plain rfl rfl rfl (w_move rfl (ev_tmp rfl)) ?_
      refine sq_plain rfl rfl rfl (w_call rfl Try.call75 rfl (feedCellsS_spec l w g hs hw) (evl_cons (ev_tmp rfl) (evl_cons (ev_tmp rfl) (evl_cons (ev_tmp rfl) evl_nil)))) ?_
      refine sq_plain rfl rfl rfl (w_move rfl (ev_tmp rfl)) ?_
      refine sq_plain rfl rfl rfl (w_extract rfl (ev_tmp rfl) rfl) ?_
      refine sq_plain rfl rfl rfl (w_extract rfl (ev_tmp rfl) rfl) ?_
      refine sq_plain rfl rfl rfl (w_assign rfl (ev_tmp rfl)) ?_
      refine sq_plain rfl rfl rfl (w_assign rfl (ev_tmp rfl)) ?_
      refine sq_nil ?_
      refine awp_seq ?_
      refine awp_region ?_
      refine sq_plain rfl rfl rfl (w_move rfl (ev_tmp rfl)) ?_
      refine sq_callGT [] 0 1 ([]) ([]) (fun zz => nin TCell.ow l zz.2) rfl rfl rfl rfl Try.call76 rfl rfl (show List.Perm ([]) (([]) ++ ([])) from List.Perm.refl _) (toCellS_own l hs) (evl_cons (ev_tmp rfl) evl_nil) (fun a => perm_lin) ?_
      intro x39 ok39
      refine sq_plain rfl rfl rfl (w_assign rfl (ev_tmp rfl)) ?_
      refine sq_nil ?_
      refine awp_seq ?_
      refine awp_region ?_
      refine sq_plain rfl rfl rfl (w_move rfl (ev_tmp rfl)) ?_
      refine sq_callG [] rfl rfl rfl rfl Try.call77 rfl (toFeedItemS_own w hw) (evl_cons (ev_tmp rfl) evl_nil) rfl ?_
      intro x41 ok41
      refine sq_plain rfl rfl rfl (w_assign rfl (ev_tmp rfl)) ?_
      refine sq_nil ?_
      refine awp_seq ?_
      refine awp_region ?_
      refine sq_plain rfl rfl rfl (w_move rfl (ev_tmp rfl)) ?_
      refine sq_plain rfl rfl rfl (w_move rfl (ev_tmp rfl)) ?_
      refine sq_plain rfl rfl rfl (w_move rfl (ev_tmp rfl)) ?_
      refine sq_callGB [] rfl rfl rfl rfl Try.call78 rfl (feedCells_own l w g hs hw) rfl (evlb_cons (evb_lt (ev_tmp rfl) (nin_lend TCell.lcM (by first | exact ok39 | exact ok39.trans (marksN_len _ _).symm) 1 rfl (fun o ho => List.mem_of_mem_drop (i := 2) (show o ∈ nin TCell.ow l x39.2 from by first | exact ho | exact List.mem_append_left _ ho | exact List.mem_append_right _ ho | exact List.mem_append_right _ (List.mem_append_left _ ho) | exact List.mem_append_right _ (List.mem_append_right _ ho))))) (evlb_cons (evb_arr 0 (ev_tmp rfl) rfl) (evlb_cons (evb (ev_tmp rfl)) evlb_nil))) (by first | exact flatO_nil | (intro _; exact flatO_nil) | (intro _; first | exact flat_is _ | exact flat_ik _ _ | exact flat_bool _ | exact flat_str _ | exact flat_nils) | (intro _; refine flat_tup ?_; (repeat (first | exact flatl_nil | (refine flatl_cons (by first | (first | exact flat_is _ | exact flat_ik _ _ | exact flat_bool _ | exact flat_str _ | exact flat_nils) | (refine flat_agg ?_; (repeat (first | exact flatl_nil | (refine flatl_cons (by first | exact flat_is _ | exact flat_ik _ _ | exact flat_bool _ | exact flat_str _ | exact flat_nils) ?_))))) ?_))); done) | (intro _; refine flat_agg ?_; (repeat (first | exact flatl_nil | (refine flatl_cons (by first | exact flat_is _ | exact flat_ik _ _ | exact flat_bool _ | exact flat_str _ | exact flat_nils) ?_))); done) | ((repeat (first | exact flatO_nil | (refine flatO_cons (flatO_box ?_) ?_; (repeat (first | exact flatl_nil | (refine flatl_cons (by first | exact flat_is _ | exact flat_ik _ _ | exact flat_bool _ | exact flat_str _ | exact flat_nils) ?_)))) | (refine flatO_cons (flatO_arr ?_) ?_; (repeat (first | exact flate_nil | (refine flate_map (fun _ => ?_); (first | exact TWrite.flat _ | exact TFeedItem.flat _ | exact TIdx.flat _ | exact TVer.flat _ | (repeat (first | exact flatl_nil | (refine flatl_cons (by first | exact flat_is _ | exact flat_ik _ _ | exact flat_bool _ | exact flat_str _ | exact flat_nils) ?_))))) | (refine flate_rep ?_; (first | exact TWrite.flat _ | exact TFeedItem.flat _ | exact TIdx.flat _ | exact TVer.flat _ | (repeat (first | exact flatl_nil | (refine flatl_cons (by first | exact flat_is _ | exact flat_ik _ _ | exact flat_bool _ | exact flat_str _ | exact flat_nils) ?_))))) | (refine flate_cons ?_ ?_; (first | exact TWrite.flat _ | exact TFeedItem.flat _ | exact TIdx.flat _ | exact TVer.flat _ | (repeat (first | exact flatl_nil | (refine flatl_cons (by first | exact flat_is _ | exact flat_ik _ _ | exact flat_bool _ | exact flat_str _ | exact flat_nils) ?_))))) | refine flate_app ?_ ?_))))); done) | (intro _; (repeat (first | exact flatO_nil | (refine flatO_cons (flatO_box ?_) ?_; (repeat (first | exact flatl_nil | (refine flatl_cons (by first | exact flat_is _ | exact flat_ik _ _ | exact flat_bool _ | exact flat_str _ | exact flat_nils) ?_)))) | (refine flatO_cons (flatO_arr ?_) ?_; (repeat (first | exact flate_nil | (refine flate_map (fun _ => ?_); (first | exact TWrite.flat _ | exact TFeedItem.flat _ | exact TIdx.flat _ | exact TVer.flat _ | (repeat (first | exact flatl_nil | (refine flatl_cons (by first | exact flat_is _ | exact flat_ik _ _ | exact flat_bool _ | exact flat_str _ | exact flat_nils) ?_))))) | (refine flate_rep ?_; (first | exact TWrite.flat _ | exact TFeedItem.flat _ | exact TIdx.flat _ | exact TVer.flat _ | (repeat (first | exact flatl_nil | (refine flatl_cons (by first | exact flat_is _ | exact flat_ik _ _ | exact flat_bool _ | exact flat_str _ | exact flat_nils) ?_))))) | (refine flate_cons ?_ ?_; (first | exact TWrite.flat _ | exact TFeedItem.flat _ | exact TIdx.flat _ | exact TVer.flat _ | (repeat (first | exact flatl_nil | (refine flatl_cons (by first | exact flat_is _ | exact flat_ik _ _ | exact flat_bool _ | exact flat_str _ | exact flat_nils) ?_))))) | refine flate_app ?_ ?_))))); done)) (fun x => flat_tup (flatC_cons (flat_is _) (flatC_cons (flat_bool _) flatC_nil))) (fun x => flatO_cons (flatO_arr (nrows_flat TCell.flatC _ _)) (nin_flat TCell.flatW _ _)) ?_
      intro x46 ok46
      refine sq_le (le_mid (NT := nin TCell.ow (feedCells l w g).1 x46.2 ++ (nin TCell.ow l x39.2)) 1 2 (List.Perm.refl _)) ?_
      refine sq_plain rfl rfl rfl (w_move rfl (ev_tmp rfl)) ?_
      refine sq_plain rfl rfl rfl (w_extract rfl (ev_tmp rfl) rfl) ?_
      refine sq_plain rfl rfl rfl (w_extract rfl (ev_tmp rfl) rfl) ?_
      refine sq_plain rfl rfl rfl (w_assign rfl (ev_tmp rfl)) ?_
      refine sq_plain rfl rfl rfl (w_assign rfl (ev_tmp rfl)) ?_
      refine sq_nil ?_
      refine awp_seq ?_
      refine awp_seq ?_
      refine awp_region ?_
      refine sq_plain rfl rfl rfl (w_move rfl (ev_tmp rfl)) ?_
      refine sq_plain rfl rfl rfl (w_move rfl (ev_tmp rfl)) ?_
      refine sq_plain rfl rfl rfl (w_callB rfl Try.call79 rfl (eqCellS_spec _ _) (flat_bool _) (evlb_cons (evb_lt (ev_tmp rfl) (nin_lend TCell.lcM (by first | exact ok46 | exact ok46.trans (marksN_len _ _).symm) 0 rfl (fun o ho => List.mem_of_mem_drop (i := 3) (show o ∈ nin TCell.ow (feedCells l w g).1 x46.2 ++ (nin TCell.ow l x39.2) from by first | exact ho | exact List.mem_append_left _ ho | exact List.mem_append_right _ ho | exact List.mem_append_right _ (List.mem_append_left _ ho) | exact List.mem_append_right _ (List.mem_append_right _ ho))))) (evlb_cons (evb (ev_tmp rfl)) evlb_nil))) ?_
      refine sq_plain rfl rfl rfl (w_not rfl (ev_tmp rfl)) ?_
      refine sq_plain rfl rfl rfl (w_move rfl (ev_tmp rfl)) ?_
      refine sq_grd rfl rfl (guard_f rfl rfl rfl) (fun hc => w_move rfl (ev_tmp rfl)) ?_
      refine sq_grd rfl rfl (guard_f rfl rfl rfl) (fun hc => w_move rfl (ev_tmp rfl)) ?_
      refine sq_grd rfl rfl (guard_f rfl rfl rfl) (fun hc => w_bneq rfl Try.underlying4 (ev_whn rfl hc) (ev_whn rfl hc)) ?_
      refine sq_plain rfl rfl rfl (w_or rfl (ev_tmp rfl) (evif_w rfl)) ?_
      refine sq_nil ?_
      refine awp_cond (ev_tmp rfl) ?_ ?_
      · intro h57
        refine awp_seq ?_
        refine awp_region ?_
        refine sq_plain rfl rfl rfl (w_assign rfl ev_cb) ?_
        refine sq_nil ?_
        refine awp_ret ?_
        exact retR rfl (rv_tmp' rfl (by first | rfl | (exfalso; simp_all [feedCells_eq]; done) | (exfalso; simp_all [feedCells_eq]; omega)))
      · intro h57
        refine awp_skip ?_
        refine awp_seq ?_
        refine awp_seq ?_
        refine awp_region ?_
        refine sq_plain rfl rfl rfl (w_move rfl (ev_tmp rfl)) ?_
        refine sq_plain rfl rfl rfl (w_move rfl (ev_tmp rfl)) ?_
        refine sq_plain rfl rfl rfl (w_call rfl Try.call76 rfl (toCellS_spec l hs) (evl_cons (ev_tmp rfl) evl_nil)) ?_
        refine sq_plain rfl rfl rfl (w_callB rfl Try.call79 rfl (eqCellS_spec _ _) (flat_bool _) (evlb_cons (evb_lt (ev_tmp rfl) (nin_lend TCell.lcM (by first | exact ok39 | exact ok39.trans (marksN_len _ _).symm) 2 rfl (fun o ho => List.mem_of_mem_drop (i := 3) (show o ∈ nin TCell.ow (feedCells l w g).1 x46.2 ++ (nin TCell.ow l x39.2) from by first | exact ho | exact List.mem_append_left _ ho | exact List.mem_append_right _ ho | exact List.mem_append_right _ (List.mem_append_left _ ho) | exact List.mem_append_right _ (List.mem_append_right _ ho))))) (evlb_cons (evb (ev_tmp rfl)) evlb_nil))) ?_
        refine sq_plain rfl rfl rfl (w_not rfl (ev_tmp rfl)) ?_
        refine sq_nil ?_
        refine awp_cond (ev_tmp rfl) ?_ ?_
        · intro h62
          refine awp_seq ?_
          refine awp_region ?_
          refine sq_plain rfl rfl rfl (w_assign rfl ev_cb) ?_
          refine sq_nil ?_
          refine awp_ret ?_
          exact retR rfl (rv_tmp' rfl (by first | rfl | (exfalso; simp_all [feedCells_eq]; done) | (exfalso; simp_all [feedCells_eq]; omega)))
        · intro h62
          refine awp_skip ?_
          refine awp_seq ?_
          refine awp_seq ?_
          refine awp_region ?_
          refine sq_plain rfl rfl rfl (w_move rfl (ev_tmp rfl)) ?_
          refine sq_plain rfl rfl rfl (w_move rfl (ev_tmp rfl)) ?_
          refine sq_plain rfl rfl rfl (w_call rfl Try.call77 rfl (toFeedItemS_spec w hw) (evl_cons (ev_tmp rfl) evl_nil)) ?_
          refine sq_plain rfl rfl rfl (w_callB rfl Try.call80 rfl (eqFeedItemS_spec _ _) (flat_bool _) (evlb_cons (evb_arr 1 (ev_tmp rfl) rfl) (evlb_cons (evb (ev_tmp rfl)) evlb_nil))) ?_
          refine sq_plain rfl rfl rfl (w_not rfl (ev_tmp rfl)) ?_
          refine sq_nil ?_
          refine awp_cond (ev_tmp rfl) ?_ ?_
          · intro h67
            refine awp_seq ?_
            refine awp_region ?_
            refine sq_plain rfl rfl rfl (w_assign rfl ev_cb) ?_
            refine sq_nil ?_
            refine awp_ret ?_
            exact retR rfl (rv_tmp' rfl (by first | rfl | (exfalso; simp_all [feedCells_eq]; done) | (exfalso; simp_all [feedCells_eq]; omega)))
          · intro h67
            refine awp_skip ?_
            refine awp_seq ?_
            refine awp_region ?_
            refine sq_plain rfl rfl rfl (w_assign rfl ev_ci) ?_
            refine sq_nil ?_
            refine awp_seq ?_
            refine awp_region ?_
            refine sq_plain rfl rfl rfl (w_move rfl (ev_tmp rfl)) ?_
            refine sq_plain rfl rfl rfl (w_move rfl (ev_tmp rfl)) ?_
            refine sq_callGT [2] 2 1 (nin TCell.ow l x39.2) (nin TCell.ow (feedCells l w g).1 x46.2) (fun zz => nin TCell.ow (marksN TCell.markE TCell.markEN l 1) x39.2 ++ (nin TCell.ow (feedCells l w g).1 x46.2)) rfl rfl rfl rfl Try.call81 rfl rfl (show List.Perm (nin TCell.ow (feedCells l w g).1 x46.2 ++ (nin TCell.ow l x39.2)) ((nin TCell.ow l x39.2) ++ (nin TCell.ow (feedCells l w g).1 x46.2)) from List.perm_append_comm) (markCellS_spec _ l x39.2 1 ok39 hX) (evl_cons (ev_tmp rfl) (evl_cons (ev_tmp rfl) evl_nil)) (fun a => List.Perm.refl _) ?_
            intro x70 ok70
            refine sq_plain rfl rfl rfl (w_assign rfl (ev_tmp rfl)) ?_
            refine sq_nil ?_
            refine awp_seq ?_
            refine awp_region ?_
            refine sq_plain rfl rfl rfl (w_move rfl (ev_tmp rfl)) ?_
            refine sq_plain rfl rfl rfl (w_move rfl (ev_tmp rfl)) ?_
            refine sq_callG [2] rfl rfl rfl rfl Try.call82 rfl (markFeedItemS_spec _ w (countN TCell.markEN l 1) hF) (evl_cons (ev_tmp rfl) (evl_cons (ev_tmp rfl) evl_nil)) rfl ?_
            intro x73 ok73
            refine sq_plain rfl rfl rfl (w_assign rfl (ev_tmp rfl)) ?_
            refine sq_nil ?_
            refine awp_seq ?_
            refine awp_seq ?_
            refine awp_region ?_
            refine sq_plain rfl rfl rfl (w_move rfl (ev_tmp rfl)) ?_
            refine sq_plain rfl rfl rfl (w_lss rfl (ev_tmp rfl) ev_ci) ?_
            refine sq_plain rfl rfl rfl (w_move rfl (ev_tmp rfl)) ?_
            refine sq_grd rfl rfl (guard_f rfl rfl rfl) (fun hc => w_move rfl (ev_tmp rfl)) ?_
            refine sq_grd rfl rfl (guard_f rfl rfl rfl) (fun hc => w_move rfl (ev_tmp rfl)) ?_
            refine sq_grd rfl rfl (guard_f rfl rfl rfl) (fun hc => w_callB rfl Try.call79 rfl (eqCellS_spec _ _) (flat_bool _) (evlb_cons (evb_lt (ev_whn rfl hc) (nin_lend TCell.lcM (by first | exact ok46 | exact ok46.trans (marksN_len _ _).symm) 2 rfl (fun o ho => List.mem_of_mem_drop (i := 3) (show o ∈ nin TCell.ow (marksN TCell.markE TCell.markEN l 1) x39.2 ++ (nin TCell.ow (feedCells l w g).1 x46.2) from by first | exact ho | exact List.mem_append_left _ ho | exact List.mem_append_right _ ho | exact List.mem_append_right _ (List.mem_append_left _ ho) | exact List.mem_append_right _ (List.mem_append_right _ ho))))) (evlb_cons (evb (ev_whn rfl hc)) evlb_nil))) ?_
            refine sq_grd rfl rfl (guard_f rfl rfl rfl) (fun hc => w_not rfl (ev_whn rfl hc)) ?_
            refine sq_plain rfl rfl rfl (w_or rfl (ev_tmp rfl) (evif_w rfl)) ?_
            refine sq_plain rfl rfl rfl (w_move rfl (ev_tmp rfl)) ?_
            refine sq_grd rfl rfl (guard_f rfl rfl rfl) (fun hc => w_move rfl (ev_tmp rfl)) ?_
            refine sq_grd rfl rfl (guard_f rfl rfl rfl) (fun hc => w_move rfl (ev_tmp rfl)) ?_
            refine sq_grd rfl rfl (guard_f rfl rfl rfl) (fun hc => w_bneq rfl Try.underlying4 (ev_whn rfl hc) (ev_whn rfl hc)) ?_
            refine sq_plain rfl rfl rfl (w_or rfl (ev_tmp rfl) (evif_w rfl)) ?_
            refine sq_nil ?_
            refine awp_cond (ev_tmp rfl) ?_ ?_
            · intro h86
              refine awp_seq ?_
              refine awp_region ?_
              refine sq_plain rfl rfl rfl (w_assign rfl ev_cb) ?_
              refine sq_nil ?_
              refine awp_ret ?_
              exact retR rfl (rv_tmp' rfl (by first | rfl | (exfalso; simp_all [feedCells_eq]; done) | (exfalso; simp_all [feedCells_eq]; omega)))
            · intro h86
              refine awp_skip ?_
              refine awp_seq ?_
              refine awp_region ?_
              refine sq_plain rfl rfl rfl (w_assign rfl ev_ci) ?_
              refine sq_nil ?_
              refine awp_seq ?_
              refine awp_region ?_
              refine sq_plain rfl rfl rfl (w_move rfl (ev_tmp rfl)) ?_
              refine sq_plain rfl rfl rfl (w_move rfl (ev_tmp rfl)) ?_
              refine sq_callGT [2] 2 1 (nin TCell.ow (feedCells l w g).1 x46.2) (nin TCell.ow (marksN TCell.markE TCell.markEN l 1) x39.2) (fun zz => nin TCell.ow (marksN TCell.markE TCell.markEN (feedCells l w g).1 1) x46.2 ++ (nin TCell.ow (marksN TCell.markE TCell.markEN l 1) x39.2)) rfl rfl rfl rfl Try.call81 rfl rfl (show List.Perm (nin TCell.ow (marksN TCell.markE TCell.markEN l 1) x39.2 ++ (nin TCell.ow (feedCells l w g).1 x46.2)) ((nin TCell.ow (feedCells l w g).1 x46.2) ++ (nin TCell.ow (marksN TCell.markE TCell.markEN l 1) x39.2)) from List.perm_append_comm) (markCellS_spec _ (feedCells l w g).1 x46.2 1 ok46 hN) (evl_cons (ev_tmp rfl) (evl_cons (ev_tmp rfl) evl_nil)) (fun a => List.Perm.refl _) ?_
              intro x89 ok89
              refine sq_plain rfl rfl rfl (w_assign rfl (ev_tmp rfl)) ?_
              refine sq_nil ?_
              refine awp_seq ?_
              refine awp_region ?_
              refine sq_plain rfl rfl rfl (w_assign rfl ev_ci) ?_
              refine sq_nil ?_
              refine awp_seq ?_
              refine awp_region ?_
              refine sq_plain rfl rfl rfl (w_move rfl (ev_tmp rfl)) ?_
              refine sq_plain rfl rfl rfl (w_move rfl (ev_tmp rfl)) ?_
              refine sq_plain rfl rfl rfl (w_callB rfl Try.call83 rfl (heldCellS_spec (feedCells l w g).1 1 hN) (flat_ik _ _) (evlb_cons (evb_lt (ev_tmp rfl) (nin_lend TCell.lcM (by first | exact ok46 | exact ok46.trans (marksN_len _ _).symm) 0 rfl (fun o ho => List.mem_of_mem_drop (i := 3) (show o ∈ nin TCell.ow (marksN TCell.markE TCell.markEN (feedCells l w g).1 1) x46.2 ++ (nin TCell.ow (marksN TCell.markE TCell.markEN l 1) x39.2) from by first | exact ho | exact List.mem_append_left _ ho | exact List.mem_append_right _ ho | exact List.mem_append_right _ (List.mem_append_left _ ho) | exact List.mem_append_right _ (List.mem_append_right _ ho))))) (evlb_cons (evb (ev_tmp rfl)) evlb_nil))) ?_
              refine sq_plain rfl rfl rfl (w_assign rfl (ev_tmp rfl)) ?_
              refine sq_nil ?_
              refine awp_seq ?_
              refine awp_seq ?_
              refine awp_region ?_
              refine sq_plain rfl rfl rfl (w_move rfl (ev_tmp rfl)) ?_
              refine sq_plain rfl rfl rfl (w_lss rfl (ev_tmp rfl) ev_ci) ?_
              refine sq_nil ?_
              refine awp_cond (ev_tmp rfl) ?_ ?_
              · intro h94
                have k94 := of_decide_eq_true h94; try simp only [List.length_map] at k94
                refine awp_seq ?_
                refine awp_region ?_
                refine sq_plain rfl rfl rfl (w_assign rfl ev_cb) ?_
                refine sq_nil ?_
                refine awp_ret ?_
                exact retR rfl (rv_tmp' rfl (by first | rfl | (exfalso; simp_all [feedCells_eq]; done) | (exfalso; simp_all [feedCells_eq]; omega)))
              · intro h94
                have k94 := of_decide_eq_false h94; try simp only [List.length_map] at k94
                refine awp_skip ?_
                refine awp_seq ?_
                refine awp_seq ?_
                refine awp_region ?_
                refine sq_plain rfl rfl rfl (w_move rfl (ev_tmp rfl)) ?_
                refine sq_plain rfl rfl rfl (w_move rfl (ev_tmp rfl)) ?_
                refine sq_plain rfl rfl rfl (w_neq rfl (ev_tmp rfl) (ev_tmp rfl)) ?_
                refine sq_nil ?_
                refine awp_cond (ev_tmp rfl) ?_ ?_
                · intro h97
                  have k97 := ne_of_bne h97; try simp only [List.length_map] at k97
                  refine awp_seq ?_
                  refine awp_region ?_
                  refine sq_plain rfl rfl rfl (w_assign rfl ev_cb) ?_
                  refine sq_nil ?_
                  refine awp_ret ?_
                  exact retR rfl (rv_tmp' rfl (by first | rfl | (exfalso; simp_all [feedCells_eq]; done) | (exfalso; simp_all [feedCells_eq]; omega)))
                · intro h97
                  have k97 := eq_of_bne_false h97; try simp only [List.length_map] at k97
                  refine awp_skip ?_
                  refine awp_seq ?_
                  refine awp_region ?_
                  refine sq_plain rfl rfl rfl (w_move rfl (ev_tmp rfl)) ?_
                  refine sq_plain rfl rfl rfl (w_call rfl Try.call76 rfl (toCellS_spec l hs) (evl_cons (ev_tmp rfl) evl_nil)) ?_
                  refine sq_plain rfl rfl rfl (w_move rfl (ev_tmp rfl)) ?_
                  refine sq_plain rfl rfl rfl (w_call rfl Try.call77 rfl (toFeedItemS_spec w hw) (evl_cons (ev_tmp rfl) evl_nil)) ?_
                  refine sq_plain rfl rfl rfl (w_move rfl (ev_tmp rfl)) ?_
                  refine sq_callGT [] 3 1 ([]) (nin TCell.ow (marksN TCell.markE TCell.markEN (feedCells l w g).1 1) x46.2 ++ (nin TCell.ow (marksN TCell.markE TCell.markEN l 1) x39.2)) (fun zz => nin TCell.ow (feedCells l w g).1 zz.2 ++ (nin TCell.ow (marksN TCell.markE TCell.markEN (feedCells l w g).1 1) x46.2 ++ (nin TCell.ow (marksN TCell.markE TCell.markEN l 1) x39.2))) rfl rfl rfl rfl Try.call78 rfl rfl (show List.Perm (nin TCell.ow (marksN TCell.markE TCell.markEN (feedCells l w g).1 1) x46.2 ++ (nin TCell.ow (marksN TCell.markE TCell.markEN l 1) x39.2)) (([]) ++ (nin TCell.ow (marksN TCell.markE TCell.markEN (feedCells l w g).1 1) x46.2 ++ (nin TCell.ow (marksN TCell.markE TCell.markEN l 1) x39.2))) from List.Perm.refl _) (feedCells_own l w g hs hw) (evl_cons (ev_tmp rfl) (evl_cons (ev_tmp rfl) (evl_cons (ev_tmp rfl) evl_nil))) (fun a => List.Perm.refl _) ?_
                  intro x104 ok104
                  refine sq_plain rfl rfl rfl (w_move rfl (ev_tmp rfl)) ?_
                  refine sq_plain rfl rfl rfl (w_extract rfl (ev_tmp rfl) rfl) ?_
                  refine sq_plain rfl rfl rfl (w_extract rfl (ev_tmp rfl) rfl) ?_
                  refine sq_plain rfl rfl rfl (w_assign rfl (ev_tmp rfl)) ?_
                  refine sq_plain rfl rfl rfl (w_assign rfl (ev_tmp rfl)) ?_
                  refine sq_nil ?_
                  refine awp_seq ?_
                  refine awp_seq ?_
                  refine awp_region ?_
                  refine sq_plain rfl rfl rfl (w_move rfl (ev_tmp rfl)) ?_
                  refine sq_plain rfl rfl rfl (w_move rfl (ev_tmp rfl)) ?_
                  refine sq_plain rfl rfl rfl (w_callB rfl Try.call79 rfl (eqCellS_spec _ _) (flat_bool _) (evlb_cons (evb_lt (ev_tmp rfl) (nin_lend TCell.lcM (by first | exact ok104 | exact ok104.trans (marksN_len _ _).symm) 0 rfl (fun o ho => List.mem_of_mem_drop (i := 4) (show o ∈ nin TCell.ow (feedCells l w g).1 x104.2 ++ (nin TCell.ow (marksN TCell.markE TCell.markEN (feedCells l w g).1 1) x46.2 ++ (nin TCell.ow (marksN TCell.markE TCell.markEN l 1) x39.2)) from by first | exact ho | exact List.mem_append_left _ ho | exact List.mem_append_right _ ho | exact List.mem_append_right _ (List.mem_append_left _ ho) | exact List.mem_append_right _ (List.mem_append_right _ ho))))) (evlb_cons (evb (ev_tmp rfl)) evlb_nil))) ?_
                  refine sq_plain rfl rfl rfl (w_not rfl (ev_tmp rfl)) ?_
                  refine sq_plain rfl rfl rfl (w_move rfl (ev_tmp rfl)) ?_
                  refine sq_grd rfl rfl (guard_f rfl rfl rfl) (fun hc => w_move rfl (ev_tmp rfl)) ?_
                  refine sq_grd rfl rfl (guard_f rfl rfl rfl) (fun hc => w_move rfl (ev_tmp rfl)) ?_
                  refine sq_grd rfl rfl (guard_f rfl rfl rfl) (fun hc => w_bneq rfl Try.underlying4 (ev_whn rfl hc) (ev_whn rfl hc)) ?_
                  refine sq_plain rfl rfl rfl (w_or rfl (ev_tmp rfl) (evif_w rfl)) ?_
                  refine sq_nil ?_
                  refine awp_cond (ev_tmp rfl) ?_ ?_
                  · intro h115
                    refine awp_seq ?_
                    refine awp_region ?_
                    refine sq_plain rfl rfl rfl (w_assign rfl ev_cb) ?_
                    refine sq_nil ?_
                    refine awp_ret ?_
                    exact retR rfl (rv_tmp' rfl (by first | rfl | (exfalso; simp_all [feedCells_eq]; done) | (exfalso; simp_all [feedCells_eq]; omega)))
                  · intro h115
                    refine awp_skip ?_
                    refine awp_seq ?_
                    refine awp_region ?_
                    refine sq_plain rfl rfl rfl (w_assign rfl ev_ci) ?_
                    refine sq_nil ?_
                    refine awp_seq ?_
                    refine awp_region ?_
                    refine sq_plain rfl rfl rfl (w_move rfl (ev_tmp rfl)) ?_
                    refine sq_plain rfl rfl rfl (w_move rfl (ev_tmp rfl)) ?_
                    refine sq_plain rfl rfl rfl (w_callB rfl Try.call83 rfl (heldCellS_spec (feedCells l w g).1 1 hN) (flat_ik _ _) (evlb_cons (evb_lt (ev_tmp rfl) (nin_lend TCell.lcM (by first | exact ok46 | exact ok46.trans (marksN_len _ _).symm) 1 rfl (fun o ho => List.mem_of_mem_drop (i := 4) (show o ∈ nin TCell.ow (feedCells l w g).1 x104.2 ++ (nin TCell.ow (marksN TCell.markE TCell.markEN (feedCells l w g).1 1) x46.2 ++ (nin TCell.ow (marksN TCell.markE TCell.markEN l 1) x39.2)) from by first | exact ho | exact List.mem_append_left _ ho | exact List.mem_append_right _ ho | exact List.mem_append_right _ (List.mem_append_left _ ho) | exact List.mem_append_right _ (List.mem_append_right _ ho))))) (evlb_cons (evb (ev_tmp rfl)) evlb_nil))) ?_
                    refine sq_plain rfl rfl rfl (w_assign rfl (ev_tmp rfl)) ?_
                    refine sq_nil ?_
                    refine awp_seq ?_
                    refine awp_seq ?_
                    refine awp_region ?_
                    refine sq_plain rfl rfl rfl (w_move rfl (ev_tmp rfl)) ?_
                    refine sq_plain rfl rfl rfl (w_lss rfl (ev_tmp rfl) ev_ci) ?_
                    refine sq_nil ?_
                    refine awp_cond (ev_tmp rfl) ?_ ?_
                    · intro h120
                      have k120 := of_decide_eq_true h120; try simp only [List.length_map] at k120
                      refine awp_seq ?_
                      refine awp_region ?_
                      refine sq_plain rfl rfl rfl (w_assign rfl ev_cb) ?_
                      refine sq_nil ?_
                      refine awp_ret ?_
                      exact retR rfl (rv_tmp' rfl (by first | rfl | (exfalso; simp_all [feedCells_eq]; done) | (exfalso; simp_all [feedCells_eq]; omega)))
                    · intro h120
                      have k120 := of_decide_eq_false h120; try simp only [List.length_map] at k120
                      refine awp_skip ?_
                      refine awp_seq ?_
                      refine awp_seq ?_
                      refine awp_region ?_
                      refine sq_plain rfl rfl rfl (w_move rfl (ev_tmp rfl)) ?_
                      refine sq_plain rfl rfl rfl (w_move rfl (ev_tmp rfl)) ?_
                      refine sq_plain rfl rfl rfl (w_neq rfl (ev_tmp rfl) (ev_tmp rfl)) ?_
                      refine sq_nil ?_
                      refine awp_cond (ev_tmp rfl) ?_ ?_
                      · intro h123
                        have k123 := ne_of_bne h123; try simp only [List.length_map] at k123
                        refine awp_seq ?_
                        refine awp_region ?_
                        refine sq_plain rfl rfl rfl (w_assign rfl ev_cb) ?_
                        refine sq_nil ?_
                        refine awp_ret ?_
                        exact retR rfl (rv_tmp' rfl (by first | rfl | (exfalso; simp_all [feedCells_eq]; done) | (exfalso; simp_all [feedCells_eq]; omega)))
                      · intro h123
                        have k123 := eq_of_bne_false h123; try simp only [List.length_map] at k123
                        refine awp_skip ?_
                        refine awp_seq ?_
                        refine awp_region ?_
                        refine sq_plain rfl rfl rfl (w_assign rfl ev_cb) ?_
                        refine sq_nil ?_
                        refine awp_ret ?_
                        exact retR rfl (rv_tmp' rfl (by first | rfl | (exfalso; simp_all [feedCells_eq]; done) | (exfalso; simp_all [feedCells_eq]; omega)))
end
theorem opens_Str : Opens Try.prog 9 Str (fun s => [AV.str s]) (fun s => s.length ≤ 9223372036854775807) := opens_str Try.underlying9
theorem opens_Int : Opens Try.prog 3 Int (fun n => [AV.int n]) (fun _ => True) := opens_map id (opens_int Try.underlying3) (fun _ => rfl) (fun _ _ => trivial)
theorem opens_Bool : Opens Try.prog 4 Bool (fun s => [AV.bool s]) (fun _ => True) := opens_bool Try.underlying4
theorem opens_TVer : Opens Try.prog 243 TVer TVer.cs (fun c => c.ok) := opens_map (fun p => ⟨p.1, p.2.1, p.2.2.1⟩) (opens_struct Try.underlying243 (by kernel_rfl) (opensF_cons (m := 1) opens_Int rfl (by kernel_rfl) (opensF_cons (m := 1) opens_Str rfl (by kernel_rfl) (opensF_cons (m := 1) opens_Bool rfl (by kernel_rfl) opensF_nil)))) (fun _ => rfl) (fun _ h => by exact h.2.1)
theorem opens_LTVer : Opens Try.prog 173 (List TVer) (fun l => [AV.list 3 (l.map TVer.cs)]) (fun l => (∀ x ∈ l, x.ok)) := opens_map id (opens_slice (sz := 3) Try.underlying173 (by kernel_rfl) opens_TVer (fun _ => rfl)) (fun _ => rfl) (fun _ h => h)
theorem opens_TCell : Opens Try.prog 175 TCell TCell.cs (fun c => c.ok) := opens_map (fun p => ⟨p.1, p.2.1⟩) (opens_struct Try.underlying175 (by kernel_rfl) (opensF_cons (m := 1) opens_Str rfl (by kernel_rfl) (opensF_cons (m := 1) opens_LTVer rfl (by kernel_rfl) opensF_nil))) (fun _ => rfl) (fun _ h => by exact ⟨h.1, h.2.1⟩)
theorem opens_LTCell : Opens Try.prog 81 (List TCell) (fun l => [AV.list 2 (l.map TCell.cs)]) (fun l => (∀ x ∈ l, x.ok)) := opens_map id (opens_slice (sz := 2) Try.underlying81 (by kernel_rfl) opens_TCell (fun _ => rfl)) (fun _ => rfl) (fun _ h => h)
theorem opens_TFeedItem : Opens Try.prog 178 TFeedItem TFeedItem.cs (fun c => c.ok) := opens_map (fun p => ⟨p.1, p.2.1, p.2.2.1, p.2.2.2.1, p.2.2.2.2.1⟩) (opens_struct Try.underlying178 (by kernel_rfl) (opensF_cons (m := 1) opens_Int rfl (by kernel_rfl) (opensF_cons (m := 1) opens_Int rfl (by kernel_rfl) (opensF_cons (m := 1) opens_Str rfl (by kernel_rfl) (opensF_cons (m := 1) opens_Str rfl (by kernel_rfl) (opensF_cons (m := 1) opens_Bool rfl (by kernel_rfl) opensF_nil)))))) (fun _ => rfl) (fun _ h => by exact ⟨h.2.2.1, h.2.2.2.1⟩)
theorem opens_LTFeedItem : Opens Try.prog 82 (List TFeedItem) (fun l => [AV.list 5 (l.map TFeedItem.cs)]) (fun l => (∀ x ∈ l, x.ok)) := opens_map id (opens_slice (sz := 5) Try.underlying82 (by kernel_rfl) opens_TFeedItem (fun _ => rfl)) (fun _ => rfl) (fun _ h => h)
set_option maxRecDepth 100000 in
theorem fnExactFeedCells_lifted (os : Os) (started : os.Started) (H : Type) (enc : TypeId × Value → H) :
    ReturnsInHanded {} Try.checked os 8 .any (Rows.fnExactFeedCellsSpec.pre6 enc Try.prog Try.f8 Rows.fnExactFeedCellsRow.domain false) (Rows.fnExactFeedCellsSpec.post enc Try.prog Try.f8 false true false false) := by
  refine returnsInHanded_of_change (C := Try.checked) (by kernel_rfl) started (by kernel_rfl) Try.func8
    (ChangeSpec.witness6 (enc := enc) (C := Try.checked) false ⟨#[], #[.slice none 0 0, .slice none 0 0, .int .i64 0], []⟩ 8 (by kernel_rfl) (by kernel_rfl) (by kernel_rfl) (by kernel_rfl)) ?_
  intro W base args ds gs before hval0 hW hcnd _
  have hval : ∀ (j : Nat) t v, Try.f8.params[j]? = some t → args[j]? = some v → Value.okWide Try.prog W .any base t v := hval0
  have hW2 := hW
  obtain ⟨p, q, hA0, hV, rfl, hfz, hnd⟩ := hW
  have hA : DataW.TrodAll enc Try.prog W 0 (fun _ => true) true Try.f8.params.toList args.toList ds p := hA0
  rw [Try.params8] at hA hval
  obtain ⟨v0, vs0, d0, ds0, p0, q0, hargs, rfl, rfl, h0, r0⟩ := trodAll_cons hA
  obtain ⟨v1, vs1, d1, ds1, p1, q1, rfl, rfl, rfl, h1, r1⟩ := trodAll_cons r0
  obtain ⟨v2, vs2, d2, ds2, p2, q2, rfl, rfl, rfl, h2, r2⟩ := trodAll_cons r1
  obtain ⟨rfl, rfl, rfl⟩ := trodAll_nil r2
  obtain rfl : args = #[v0, v1, v2] := by cases args; simp_all
  obtain ⟨rfl, rfl⟩ := trodVars_none hV
  have lt0 : ∀ x ∈ p0, x.block < W.heap.size := by obtain ⟨m, hm⟩ := h0; exact DataW.trod_lt m _ _ _ hm
  obtain ⟨a0, w0, g0⟩ := arg_one (opens_LTCell) (by obtain ⟨y1, y2, y3, rfl⟩ := okWide_slice Try.underlying81 (hval 0 81 v0 rfl rfl); rfl) h0
  have lt1 : ∀ x ∈ p1, x.block < W.heap.size := by obtain ⟨m, hm⟩ := h1; exact DataW.trod_lt m _ _ _ hm
  obtain ⟨a1, w1, g1⟩ := arg_one (opens_LTFeedItem) (by obtain ⟨y1, y2, y3, rfl⟩ := okWide_slice Try.underlying82 (hval 1 82 v1 rfl rfl); rfl) h1
  have lt2 : ∀ x ∈ p2, x.block < W.heap.size := by obtain ⟨m, hm⟩ := h2; exact DataW.trod_lt m _ _ _ hm
  obtain ⟨a2, w2, g2⟩ := arg_one (opens_int Try.underlying3) (by obtain ⟨y, rfl⟩ := okWide_int Try.underlying3 (hval 2 3 v2 rfl rfl); rfl) h2
  have hcall := law_calls (fnExactFeedCells_spec a0 w0 a1 w1 a2 w2) (DenV.cons g0 (DenV.cons g1 (DenV.cons g2 (DenV.nil _))))
  clear hA0 hval0
  refine Calls.mono hcall fun e W2 ⟨he, bel⟩ => ?_
  subst he
  exact ⟨_, rfl, _, _, _, [], _, [], hW2, trodAll_mk1 (shut_bool Try.underlying4 _), (trodAll_cons_mk (Below.trod (by kernel_rfl : laidOutB Try.prog = true) (by kernel_rfl) (of_decide_eq_true (by kernel_rfl)) h0 bel lt0) (trodAll_cons_mk (Below.trod (by kernel_rfl : laidOutB Try.prog = true) (by kernel_rfl) (of_decide_eq_true (by kernel_rfl)) h1 bel lt1) (trodAll_cons_mk (Below.trod (by kernel_rfl : laidOutB Try.prog = true) (by kernel_rfl) (of_decide_eq_true (by kernel_rfl)) h2 bel lt2) trodAll_mk0))), rfl, bel.frame _, fun h => by cases h⟩
theorem fnExactFeedCells_and {a b : Bool} (h : a = true) (k : b = true) : (a && b) = true := by rw [h, k]; rfl
set_option maxRecDepth 100000 in
theorem fnExactFeedCells_facts : joinedFacts Try.pinned.checked.prog 8 Try.f8 Rows.fnExactFeedCellsSpec Rows.fnExactFeedCellsRow = true := by
  unfold joinedFacts
  iterate 18 (rw [Bool.and_assoc])
  refine fnExactFeedCells_and ?_ ?_
  · as_aux_lemma => kernel_rfl
  · as_aux_lemma => kernel_rfl
/-- The statement. -/
theorem fnExactFeedCells_proved : Rows.FnExactFeedCellsSaid :=
  OpenClaim.holds_of_wide 8 Try.f8 rfl rfl rfl rfl rfl rfl rfl ⟨rfl, rfl, rfl, rfl, rfl⟩ rfl rfl rfl rfl rfl (by kernel_rfl) Try.func8 fnExactFeedCells_facts
    (of_decide_eq_true (by kernel_rfl)) (by unfold Func.isWrapper; first | (rw [if_pos (by decide +kernel)]; kernel_rfl) | (rw [if_neg (by decide +kernel)]; exact ⟨rfl, rfl⟩))
    (fun os started H enc _ => fnExactFeedCells_lifted os started H enc)
end Go.Proofs.Yteliahajeokciaa
