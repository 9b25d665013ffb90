/- Texts of the claim, part 6. -/
import Derived.Sort.Walk0
import Derived.Sort.OwnSortedInts
import Derived.Sort.EncStr
import Derived.Shelf.GgSortFunc.RowK
import Derived.Shelf.Sort.Plain
import Derived.Shelf.Slices.In.SortNone
import Derived.Test.YtmlmmgeadombbaaGreatDoorProg
import Derived.Test.YtmlmmgeadombbaaGreatDoorZRecords5

set_option linter.unusedVariables false
set_option linter.unusedSimpArgs false
set_option maxRecDepth 100000
set_option maxHeartbeats 2000000
namespace Go.M
open Go.AV
theorem wordS_cons (c : TRec) (b : UInt8) (s : Str) : wordS c (b :: s) = if b = 64 then setTime c (l1R s) else if b = 62 then setLead c (l1R s) else if b = 63 then addRead c s else if b = 33 then addWrite c (wrS s) else c := rfl
theorem wrS_two {s a b : Str} (h : splitC 61 s = [a, b]) : wrS s = ⟨a, b, false⟩ := by unfold wrS; rw [h]
theorem wrS_not {s : Str} (h : (splitC 61 s).length ≠ 2) : wrS s = if 0 < s.length then ⟨s.take (s.length - 1), [], true⟩ else ⟨(splitC 61 s).getD 0 [], [], false⟩ := by
  unfold wrS
  split
  · rename_i e; rw [e] at h; exact absurd rfl h
  · rfl
theorem one_of {l : List Str} (h : l.length = 1) : ∃ a, l = [a] := by
  match l, h with
  | [a], _ => exact ⟨a, rfl⟩
end Go.M
namespace Go.Proofs.YtmlmmgeadombbaaGreatDoor
open Go Go.AV Go.M
attribute [local irreducible] OpW OpA OpS AWP FSpec ESpec GSpec OpE RetOk RetOkG RvDen Le Ev GuardIs SrcIs Int.tmod Int.tdiv IntKind.wrap bandI
theorem l4Word_own (c : TRec) (x : Value × Value) (w : Str) (hs : w.length ≤ 1048576) (hr : c.Reads.length ≤ 1000) (hw : c.Writes.length ≤ 1000) : GSpec Tryz.prog 87 [AV.agg (TRec.ocs c x), AV.str w] (TRec.ow c x) (fun _ : Value × Value => True) (fun y => TRec.ow (wordS c w) y) (fun y => AV.agg (TRec.ocs (wordS c w) y)) := by
  refine gspec_of_awp Tryz.func87 rfl Tryz.ntmps87 rfl ?_
  refine awp_seq ?_
  refine awp_region ?_
  refine sq_box rfl rfl rfl rfl (ev_tmp rfl) ?_
  intro b2
  refine sq_alloc rfl rfl rfl rfl Tryz.zeroValue37 rfl ?_
  intro b4
  refine sq_nil ?_
  refine awp_seq ?_
  refine awp_seq ?_
  refine awp_region ?_
  refine sq_plain rfl rfl rfl (w_move rfl (ev_tmp rfl)) ?_
  refine sq_plain rfl rfl rfl (w_seql rfl (ev_tmp rfl) (ev_cs' (l := []) rfl)) ?_
  refine sq_nil ?_
  refine awp_cond (ev_tmp rfl) ?_ ?_
  · intro h10
    have he : wordS c w = c := (congrArg (wordS c) (eq_of_beq h10)).trans rfl
    rw [he]
    refine awp_seq ?_
    refine awp_region ?_
    refine sq_plain rfl rfl rfl (w_loadA 1 rfl (ev_tmp rfl) rfl Tryz.isAgg37 Tryz.sizeOf37 rfl) ?_
    refine sq_storeB0 0 rfl rfl rfl (ev_tmp rfl) (ev_tmp rfl) (as_agg _) rfl Tryz.sizeOf37 rfl ?_
    refine sq_nil ?_
    refine awp_ret ?_
    exact retG [2, 2] (x.1, x.2) (trivial) rfl (by first | rfl | (show _ = [Own.arr _ _ _ _, Own.arr _ _ _ _]; unfold TRec.ow addRead; dsimp only; rw [List.map_append]; rfl) | (show _ = [Own.arr _ _ _ _, Own.arr _ _ _ _]; unfold TRec.ow addWrite; dsimp only; rw [List.map_append]; rfl)) (resR rfl (rv_cell (ys := _) 0 rfl rfl Tryz.isAgg37 Tryz.sizeOf37 rfl))
  · intro h10
    obtain ⟨y0, s0, hw0⟩ : ∃ y0 s0, w = y0 :: s0 := (by cases w with | nil => exact absurd rfl (beq_eq_false_iff_ne.1 h10) | cons a b => exact ⟨a, b, rfl⟩)
    subst hw0
    rw [wordS_cons]
    have hsl : s0.length ≤ 1048576 := (by rw [List.length_cons] at hs; omega)
    refine awp_skip ?_
    refine awp_seq ?_
    refine awp_region ?_
    refine sq_plain rfl rfl rfl (w_move rfl (ev_tmp rfl)) ?_
    refine sq_plain rfl rfl rfl (w_ssl_lo rfl Tryz.underlying9 (ev_tmp rfl) ev_ci (by simp) (by rw [List.length_cons]; omega)) ?_
    refine sq_plain rfl rfl rfl (w_assign rfl (ev_tmp rfl)) ?_
    refine sq_nil ?_
    refine awp_seq ?_
    refine awp_seq ?_
    rw [show List.drop (Int.toNat 1) (y0 :: s0) = s0 from rfl]
    refine awp_region ?_
    refine sq_plain rfl rfl rfl (w_move rfl (ev_tmp rfl)) ?_
    refine sq_plain rfl rfl rfl (w_sidx rfl Tryz.underlying9 (ev_tmp rfl) ev_ci (by simp) rfl) ?_
    refine sq_nil ?_
    refine awp_block ?_
    refine awp_seq ?_
    refine awp_region ?_
    refine sq_plain rfl rfl rfl (w_eql rfl (ev_tmp rfl) ev_ci) ?_
    refine sq_plain rfl rfl rfl (w_assign rfl (ev_tmp rfl)) ?_
    refine sq_nil ?_
    refine awp_cond (ev_tmp rfl) ?_ ?_
    · intro h16
      have k16 := eq_of_beqt h16; try simp only [List.length_map] at k16
      rw [if_pos (byte_is 64 h16)]
      refine awp_seq ?_
      refine awp_region ?_
      refine sq_plain rfl rfl rfl (w_move rfl (ev_tmp rfl)) ?_
      refine sq_plain rfl rfl rfl (w_call rfl Tryz.call86 rfl (l1Read_spec s0 hsl) (evl_cons (ev_tmp rfl) evl_nil)) ?_
      refine sq_plain rfl rfl rfl (w_fldBn 2 rfl Tryz.underlying37 rfl Tryz.sizeOf3 (ev_tmp rfl) rfl) ?_
      refine sq_storeB1 1 rfl rfl rfl (ev_tmp rfl) (ev_tmp rfl) (as_ik _ _) rfl Tryz.sizeOf3 rfl ?_
      refine sq_nil ?_
      refine awp_region ?_
      refine sq_plain rfl rfl rfl (w_fldBn 0 rfl Tryz.underlying37 rfl Tryz.sizeOf3 (ev_tmp rfl) rfl) ?_
      refine sq_plain rfl rfl rfl (w_loadB1 1 rfl (ev_tmp rfl) rfl Tryz.isAgg3 rfl) ?_
      refine sq_plain rfl rfl rfl (w_eql rfl (ev_tmp rfl) ev_ci) ?_
      refine sq_plain rfl rfl rfl (w_move rfl (ev_tmp rfl)) ?_
      refine sq_grd rfl rfl (guard_f rfl rfl rfl) (fun hc => w_fldBn 0 rfl Tryz.underlying37 rfl Tryz.sizeOf3 (ev_tmp rfl) rfl) ?_
      refine sq_grd rfl rfl (guard_f rfl rfl rfl) (fun hc => w_loadB1 1 rfl (ev_whn rfl hc) rfl Tryz.isAgg3 rfl) ?_
      refine sq_grd rfl rfl (guard_f rfl rfl rfl) (fun hc => w_eql rfl (ev_whn rfl hc) ev_ci) ?_
      refine sq_plain rfl rfl rfl (w_or rfl (ev_tmp rfl) (evif_w rfl)) ?_
      refine sq_plain rfl rfl rfl (w_fldBn 6 rfl Tryz.underlying37 rfl Tryz.sizeOf4 (ev_tmp rfl) rfl) ?_
      refine sq_storeB1 1 rfl rfl rfl (ev_tmp rfl) (ev_tmp rfl) (as_bool _) rfl Tryz.sizeOf4 rfl ?_
      refine sq_nil ?_
      refine awp_seq ?_
      refine awp_region ?_
      refine sq_plain rfl rfl rfl (w_loadA 1 rfl (ev_tmp rfl) rfl Tryz.isAgg37 Tryz.sizeOf37 rfl) ?_
      refine sq_storeB0 0 rfl rfl rfl (ev_tmp rfl) (ev_tmp rfl) (as_agg _) rfl Tryz.sizeOf37 rfl ?_
      refine sq_nil ?_
      refine awp_ret ?_
      exact retG [2, 2] (x.1, x.2) (trivial) rfl (by first | rfl | (show _ = [Own.arr _ _ _ _, Own.arr _ _ _ _]; unfold TRec.ow addRead; dsimp only; rw [List.map_append]; rfl) | (show _ = [Own.arr _ _ _ _, Own.arr _ _ _ _]; unfold TRec.ow addWrite; dsimp only; rw [List.map_append]; rfl)) (resR rfl (rv_cell (ys := _) 0 rfl rfl Tryz.isAgg37 Tryz.sizeOf37 rfl))
    · intro h16
      have k16 := ne_of_beqf h16; try simp only [List.length_map] at k16
      rw [if_neg (byte_not 64 h16)]
      refine awp_seq ?_
      refine awp_region ?_
      refine sq_plain rfl rfl rfl (w_eql rfl (ev_tmp rfl) ev_ci) ?_
      refine sq_plain rfl rfl rfl (w_assign rfl (ev_tmp rfl)) ?_
      refine sq_nil ?_
      refine awp_cond (ev_tmp rfl) ?_ ?_
      · intro h30
        have k30 := eq_of_beqt h30; try simp only [List.length_map] at k30
        rw [if_pos (byte_is 62 h30)]
        refine awp_region ?_
        refine sq_plain rfl rfl rfl (w_move rfl (ev_tmp rfl)) ?_
        refine sq_plain rfl rfl rfl (w_call rfl Tryz.call86 rfl (l1Read_spec s0 hsl) (evl_cons (ev_tmp rfl) evl_nil)) ?_
        refine sq_plain rfl rfl rfl (w_fldBn 3 rfl Tryz.underlying37 rfl Tryz.sizeOf3 (ev_tmp rfl) rfl) ?_
        refine sq_storeB1 1 rfl rfl rfl (ev_tmp rfl) (ev_tmp rfl) (as_ik _ _) rfl Tryz.sizeOf3 rfl ?_
        refine sq_nil ?_
        refine awp_seq ?_
        refine awp_region ?_
        refine sq_plain rfl rfl rfl (w_loadA 1 rfl (ev_tmp rfl) rfl Tryz.isAgg37 Tryz.sizeOf37 rfl) ?_
        refine sq_storeB0 0 rfl rfl rfl (ev_tmp rfl) (ev_tmp rfl) (as_agg _) rfl Tryz.sizeOf37 rfl ?_
        refine sq_nil ?_
        refine awp_ret ?_
        exact retG [2, 2] (x.1, x.2) (trivial) rfl (by first | rfl | (show _ = [Own.arr _ _ _ _, Own.arr _ _ _ _]; unfold TRec.ow addRead; dsimp only; rw [List.map_append]; rfl) | (show _ = [Own.arr _ _ _ _, Own.arr _ _ _ _]; unfold TRec.ow addWrite; dsimp only; rw [List.map_append]; rfl)) (resR rfl (rv_cell (ys := _) 0 rfl rfl Tryz.isAgg37 Tryz.sizeOf37 rfl))
      · intro h30
        have k30 := ne_of_beqf h30; try simp only [List.length_map] at k30
        rw [if_neg (byte_not 62 h30)]
        refine awp_seq ?_
        refine awp_region ?_
        refine sq_plain rfl rfl rfl (w_eql rfl (ev_tmp rfl) ev_ci) ?_
        refine sq_plain rfl rfl rfl (w_assign rfl (ev_tmp rfl)) ?_
        refine sq_nil ?_
        refine awp_cond (ev_tmp rfl) ?_ ?_
        · intro h35
          have k35 := eq_of_beqt h35; try simp only [List.length_map] at k35
          rw [if_pos (byte_is 63 h35)]
          refine awp_region ?_
          refine sq_plain rfl rfl rfl (w_fldBn 4 rfl Tryz.underlying37 rfl Tryz.sizeOf34 (ev_tmp rfl) rfl) ?_
          refine sq_plain rfl rfl rfl (w_loadB1 1 rfl (ev_tmp rfl) rfl Tryz.isAgg34 rfl) ?_
          refine sq_plain rfl rfl rfl (w_move rfl (ev_tmp rfl)) ?_
          refine sq_plain rfl rfl rfl (w_bslice rfl Tryz.underlying34 Tryz.sizeOf9 Tryz.zeroValue9 rfl rfl rfl rfl (bp_cons (ev_tmp rfl) (as_str _) bp_nil) rfl rfl) ?_
          refine sq_append (by' := 16) 2 rfl rfl rfl rfl Tryz.underlying34 Tryz.type9 rfl rfl rfl rfl rfl rfl (ev_tmp rfl) (ev_tmp rfl) rfl (by simp only [List.length_map, chunks_len]; omega) ?_
          intro v41_1
          refine sq_plain rfl rfl rfl (w_fldBn 4 rfl Tryz.underlying37 rfl Tryz.sizeOf34 (ev_tmp rfl) rfl) ?_
          refine sq_fact 2 rfl fun one_v41_1 => ?_
          refine sq_storeB1 1 rfl rfl rfl (ev_tmp rfl) (ev_tmp rfl) (as_is one_v41_1) rfl Tryz.sizeOf34 rfl ?_
          refine sq_nil ?_
          refine awp_seq ?_
          refine awp_region ?_
          refine sq_plain rfl rfl rfl (w_loadA 1 rfl (ev_tmp rfl) rfl Tryz.isAgg37 Tryz.sizeOf37 rfl) ?_
          refine sq_storeB0 0 rfl rfl rfl (ev_tmp rfl) (ev_tmp rfl) (as_agg _) rfl Tryz.sizeOf37 rfl ?_
          refine sq_nil ?_
          refine awp_ret ?_
          exact retG [2, 2] (v41_1, x.2) (trivial) rfl (by first | rfl | (show _ = [Own.arr _ _ _ _, Own.arr _ _ _ _]; unfold TRec.ow addRead; dsimp only; rw [List.map_append]; rfl) | (show _ = [Own.arr _ _ _ _, Own.arr _ _ _ _]; unfold TRec.ow addWrite; dsimp only; rw [List.map_append]; rfl)) (resR rfl (rv_cell (ys := _) 0 rfl rfl Tryz.isAgg37 Tryz.sizeOf37 rfl))
        · intro h35
          have k35 := ne_of_beqf h35; try simp only [List.length_map] at k35
          rw [if_neg (byte_not 63 h35)]
          refine awp_seq ?_
          refine awp_region ?_
          refine sq_plain rfl rfl rfl (w_eql rfl (ev_tmp rfl) ev_ci) ?_
          refine sq_plain rfl rfl rfl (w_assign rfl (ev_tmp rfl)) ?_
          refine sq_nil ?_
          refine awp_cond (ev_tmp rfl) ?_ ?_
          · intro h43
            have k43 := eq_of_beqt h43; try simp only [List.length_map] at k43
            rw [if_pos (byte_is 33 h43)]
            obtain ⟨z0, zs, hz⟩ : ∃ z0 zs, splitC 61 s0 = z0 :: zs := (by cases h : splitC 61 s0 with | nil => exact absurd h (splitC_ne 61 s0) | cons a b => exact ⟨a, b, rfl⟩)
            refine awp_seq ?_
            refine awp_region ?_
            refine sq_plain rfl rfl rfl (w_move rfl (ev_tmp rfl)) ?_
            refine sq_plain rfl rfl rfl (w_call rfl Tryz.call50 rfl (l1Split_spec s0 61 hsl) (evl_cons (ev_tmp rfl) (evl_cons ev_ci evl_nil))) ?_
            refine sq_plain rfl rfl rfl (w_assign rfl (ev_tmp rfl)) ?_
            refine sq_nil ?_
            refine awp_seq ?_
            rw [hz]
            refine awp_region ?_
            refine sq_plain rfl rfl rfl (w_move rfl (ev_tmp rfl)) ?_
            refine sq_plain rfl rfl rfl (w_idxm rfl Tryz.underlying34 Tryz.sizeOf9 (ev_tmp rfl) ev_ci (show (z0 :: zs)[0]? = some z0 from rfl) (by first | omega | ((try simp only [List.length_map, List.length_take, List.length_cons, List.length_nil, chunks_len, szR] at *); omega) | (have hc2 := hc; simp only [Bool.and_eq_true, Bool.or_eq_true, Bool.or_eq_false_iff, Bool.and_eq_false_iff, Bool.not_eq_true', Bool.not_eq_false', decide_eq_true_eq, decide_eq_false_iff_not, beq_iff_eq, bne_iff_ne, List.length_map, List.length_take] at hc2; omega))) ?_
            refine sq_plain rfl rfl rfl (w_loadE1 rfl (ev_tmp rfl) Tryz.isAgg9 rfl) ?_
            refine sq_plain rfl rfl rfl (w_build (places := #[(0, 1), (1, 1), (2, 1)]) rfl Tryz.underlying79 Tryz.zeroValue79 (fun w => by kernel_rfl) rfl (bp_cons (ev_tmp rfl) (as_str _) bp_nil) rfl) ?_
            refine sq_alloc rfl rfl rfl rfl Tryz.zeroValue79 rfl ?_
            intro b7
            refine sq_storeB0 0 rfl rfl rfl (ev_tmp rfl) (ev_tmp rfl) (as_agg _) rfl Tryz.sizeOf79 rfl ?_
            refine sq_nil ?_
            refine awp_seq ?_
            refine awp_seq ?_
            refine awp_region ?_
            refine sq_plain rfl rfl rfl (w_move rfl (ev_tmp rfl)) ?_
            refine sq_plain rfl rfl rfl (w_llen rfl Tryz.underlying34 (ev_tmp rfl)) ?_
            refine sq_plain rfl rfl rfl (w_eql rfl (ev_tmp rfl) ev_ci) ?_
            refine sq_nil ?_
            refine awp_cond (ev_tmp rfl) ?_ ?_
            · intro h53
              have k53 := eq_of_beqt h53; try simp only [List.length_map] at k53
              obtain ⟨z1, hz1⟩ := one_of (l := zs) (by simp at h53; omega)
              subst hz1
              rw [wrS_two hz]
              refine awp_region ?_
              refine sq_plain rfl rfl rfl (w_move rfl (ev_tmp rfl)) ?_
              refine sq_plain rfl rfl rfl (w_idxm rfl Tryz.underlying34 Tryz.sizeOf9 (ev_tmp rfl) ev_ci (show [z0, z1][1]? = some z1 from rfl) (by first | omega | ((try simp only [List.length_map, List.length_take, List.length_cons, List.length_nil, chunks_len, szR] at *); omega) | (have hc2 := hc; simp only [Bool.and_eq_true, Bool.or_eq_true, Bool.or_eq_false_iff, Bool.and_eq_false_iff, Bool.not_eq_true', Bool.not_eq_false', decide_eq_true_eq, decide_eq_false_iff_not, beq_iff_eq, bne_iff_ne, List.length_map, List.length_take] at hc2; omega))) ?_
              refine sq_plain rfl rfl rfl (w_loadE1 rfl (ev_tmp rfl) Tryz.isAgg9 rfl) ?_
              refine sq_plain rfl rfl rfl (w_fldBn 1 rfl Tryz.underlying79 rfl Tryz.sizeOf9 (ev_tmp rfl) rfl) ?_
              refine sq_storeB1 0 rfl rfl rfl (ev_tmp rfl) (ev_tmp rfl) (as_str _) rfl Tryz.sizeOf9 rfl ?_
              refine sq_nil ?_
              refine awp_region ?_
              refine sq_plain rfl rfl rfl (w_fldBn 5 rfl Tryz.underlying37 rfl Tryz.sizeOf35 (ev_tmp rfl) rfl) ?_
              refine sq_plain rfl rfl rfl (w_loadB1 2 rfl (ev_tmp rfl) rfl Tryz.isAgg35 rfl) ?_
              refine sq_plain rfl rfl rfl (w_loadA 0 rfl (ev_tmp rfl) rfl Tryz.isAgg79 Tryz.sizeOf79 rfl) ?_
              refine sq_plain rfl rfl rfl (w_bslice rfl Tryz.underlying35 Tryz.sizeOf79 Tryz.zeroValue79 rfl rfl rfl rfl (bp_cons (ev_tmp rfl) (as_agg _) bp_nil) rfl rfl) ?_
              refine sq_append (by' := 40) 4 rfl rfl rfl rfl Tryz.underlying35 Tryz.type79 rfl rfl rfl rfl rfl rfl (ev_tmp rfl) (ev_tmp rfl) rfl (by simp only [List.length_map, chunks_len]; omega) ?_
              intro v72_2
              refine sq_plain rfl rfl rfl (w_fldBn 5 rfl Tryz.underlying37 rfl Tryz.sizeOf35 (ev_tmp rfl) rfl) ?_
              refine sq_fact 4 rfl fun one_v72_2 => ?_
              refine sq_storeB1 2 rfl rfl rfl (ev_tmp rfl) (ev_tmp rfl) (as_is one_v72_2) rfl Tryz.sizeOf35 rfl ?_
              refine sq_nil ?_
              refine awp_seq ?_
              refine awp_region ?_
              refine sq_plain rfl rfl rfl (w_loadA 2 rfl (ev_tmp rfl) rfl Tryz.isAgg37 Tryz.sizeOf37 rfl) ?_
              refine sq_storeB0 1 rfl rfl rfl (ev_tmp rfl) (ev_tmp rfl) (as_agg _) rfl Tryz.sizeOf37 rfl ?_
              refine sq_nil ?_
              refine awp_ret ?_
              exact retG [3, 3] (x.1, v72_2) (trivial) rfl (by first | rfl | (show _ = [Own.arr _ _ _ _, Own.arr _ _ _ _]; unfold TRec.ow addRead; dsimp only; rw [List.map_append]; rfl) | (show _ = [Own.arr _ _ _ _, Own.arr _ _ _ _]; unfold TRec.ow addWrite; dsimp only; rw [List.map_append]; rfl)) (resR rfl (rv_cell (ys := _) 1 rfl rfl Tryz.isAgg37 Tryz.sizeOf37 rfl))
            · intro h53
              have k53 := ne_of_beqf h53; try simp only [List.length_map] at k53
              have hn2 : (splitC 61 s0).length ≠ 2 := (by rw [hz]; simp at h53; simp; omega)
              rw [wrS_not hn2]
              refine awp_seq ?_
              refine awp_region ?_
              refine sq_plain rfl rfl rfl (w_move rfl (ev_tmp rfl)) ?_
              refine sq_plain rfl rfl rfl (w_slen rfl Tryz.underlying9 (ev_tmp rfl)) ?_
              refine sq_plain rfl rfl rfl (w_assign rfl (ev_tmp rfl)) ?_
              refine sq_nil ?_
              refine awp_seq ?_
              refine awp_region ?_
              refine sq_plain rfl rfl rfl (w_move rfl (ev_tmp rfl)) ?_
              refine sq_plain rfl rfl rfl (w_gtr rfl (ev_tmp rfl) ev_ci) ?_
              refine sq_nil ?_
              refine awp_cond (ev_tmp rfl) ?_ ?_
              · intro h61
                have k61 := of_decide_eq_true h61; try simp only [List.length_map] at k61
                have hT : ((s0.length : Int) - 1).toNat = s0.length - 1 := by omega
                rw [if_pos (by omega), ← hT]
                refine awp_seq ?_
                refine awp_region ?_
                refine sq_plain rfl rfl rfl (w_move rfl (ev_tmp rfl)) ?_
                refine sq_plain rfl rfl rfl (w_move rfl (ev_tmp rfl)) ?_
                refine sq_plain rfl rfl rfl (w_subi rfl (ev_tmp rfl) ev_ci (by first | omega | ((try simp only [List.length_map, List.length_take, List.length_cons, List.length_nil, chunks_len, szR] at *); omega) | (have hc2 := hc; simp only [Bool.and_eq_true, Bool.or_eq_true, Bool.or_eq_false_iff, Bool.and_eq_false_iff, Bool.not_eq_true', Bool.not_eq_false', decide_eq_true_eq, decide_eq_false_iff_not, beq_iff_eq, bne_iff_ne, List.length_map, List.length_take] at hc2; omega))) ?_
                refine sq_plain rfl rfl rfl (w_ssl_hi rfl Tryz.underlying9 (ev_tmp rfl) (ev_tmp rfl) (by first | omega | ((try simp only [List.length_map, List.length_take, List.length_cons, List.length_nil, chunks_len, szR] at *); omega) | (have hc2 := hc; simp only [Bool.and_eq_true, Bool.or_eq_true, Bool.or_eq_false_iff, Bool.and_eq_false_iff, Bool.not_eq_true', Bool.not_eq_false', decide_eq_true_eq, decide_eq_false_iff_not, beq_iff_eq, bne_iff_ne, List.length_map, List.length_take] at hc2; omega)) (by first | omega | ((try simp only [List.length_map, List.length_take, List.length_cons, List.length_nil, chunks_len, szR] at *); omega) | (have hc2 := hc; simp only [Bool.and_eq_true, Bool.or_eq_true, Bool.or_eq_false_iff, Bool.and_eq_false_iff, Bool.not_eq_true', Bool.not_eq_false', decide_eq_true_eq, decide_eq_false_iff_not, beq_iff_eq, bne_iff_ne, List.length_map, List.length_take] at hc2; omega))) ?_
                refine sq_plain rfl rfl rfl (w_fldBn 0 rfl Tryz.underlying79 rfl Tryz.sizeOf9 (ev_tmp rfl) rfl) ?_
                refine sq_storeB1 0 rfl rfl rfl (ev_tmp rfl) (ev_tmp rfl) (as_str _) rfl Tryz.sizeOf9 rfl ?_
                refine sq_nil ?_
                refine awp_region ?_
                refine sq_plain rfl rfl rfl (w_fldBn 2 rfl Tryz.underlying79 rfl Tryz.sizeOf4 (ev_tmp rfl) rfl) ?_
                refine sq_storeB1 0 rfl rfl rfl (ev_tmp rfl) ev_cb (as_bool _) rfl Tryz.sizeOf4 rfl ?_
                refine sq_nil ?_
                refine awp_region ?_
                refine sq_plain rfl rfl rfl (w_fldBn 5 rfl Tryz.underlying37 rfl Tryz.sizeOf35 (ev_tmp rfl) rfl) ?_
                refine sq_plain rfl rfl rfl (w_loadB1 2 rfl (ev_tmp rfl) rfl Tryz.isAgg35 rfl) ?_
                refine sq_plain rfl rfl rfl (w_loadA 0 rfl (ev_tmp rfl) rfl Tryz.isAgg79 Tryz.sizeOf79 rfl) ?_
                refine sq_plain rfl rfl rfl (w_bslice rfl Tryz.underlying35 Tryz.sizeOf79 Tryz.zeroValue79 rfl rfl rfl rfl (bp_cons (ev_tmp rfl) (as_agg _) bp_nil) rfl rfl) ?_
                refine sq_append (by' := 40) 4 rfl rfl rfl rfl Tryz.underlying35 Tryz.type79 rfl rfl rfl rfl rfl rfl (ev_tmp rfl) (ev_tmp rfl) rfl (by simp only [List.length_map, chunks_len]; omega) ?_
                intro v72_3
                refine sq_plain rfl rfl rfl (w_fldBn 5 rfl Tryz.underlying37 rfl Tryz.sizeOf35 (ev_tmp rfl) rfl) ?_
                refine sq_fact 4 rfl fun one_v72_3 => ?_
                refine sq_storeB1 2 rfl rfl rfl (ev_tmp rfl) (ev_tmp rfl) (as_is one_v72_3) rfl Tryz.sizeOf35 rfl ?_
                refine sq_nil ?_
                refine awp_seq ?_
                refine awp_region ?_
                refine sq_plain rfl rfl rfl (w_loadA 2 rfl (ev_tmp rfl) rfl Tryz.isAgg37 Tryz.sizeOf37 rfl) ?_
                refine sq_storeB0 1 rfl rfl rfl (ev_tmp rfl) (ev_tmp rfl) (as_agg _) rfl Tryz.sizeOf37 rfl ?_
                refine sq_nil ?_
                refine awp_ret ?_
                exact retG [3, 3] (x.1, v72_3) (trivial) rfl (by first | rfl | (show _ = [Own.arr _ _ _ _, Own.arr _ _ _ _]; unfold TRec.ow addRead; dsimp only; rw [List.map_append]; rfl) | (show _ = [Own.arr _ _ _ _, Own.arr _ _ _ _]; unfold TRec.ow addWrite; dsimp only; rw [List.map_append]; rfl)) (resR rfl (rv_cell (ys := _) 1 rfl rfl Tryz.isAgg37 Tryz.sizeOf37 rfl))
              · intro h61
                have k61 := of_decide_eq_false h61; try simp only [List.length_map] at k61
                rw [if_neg (by omega), hz]
                refine awp_skip ?_
                refine awp_region ?_
                refine sq_plain rfl rfl rfl (w_fldBn 5 rfl Tryz.underlying37 rfl Tryz.sizeOf35 (ev_tmp rfl) rfl) ?_
                refine sq_plain rfl rfl rfl (w_loadB1 2 rfl (ev_tmp rfl) rfl Tryz.isAgg35 rfl) ?_
                refine sq_plain rfl rfl rfl (w_loadA 0 rfl (ev_tmp rfl) rfl Tryz.isAgg79 Tryz.sizeOf79 rfl) ?_
                refine sq_plain rfl rfl rfl (w_bslice rfl Tryz.underlying35 Tryz.sizeOf79 Tryz.zeroValue79 rfl rfl rfl rfl (bp_cons (ev_tmp rfl) (as_agg _) bp_nil) rfl rfl) ?_
                refine sq_append (by' := 40) 4 rfl rfl rfl rfl Tryz.underlying35 Tryz.type79 rfl rfl rfl rfl rfl rfl (ev_tmp rfl) (ev_tmp rfl) rfl (by simp only [List.length_map, chunks_len]; omega) ?_
                intro v72_4
                refine sq_plain rfl rfl rfl (w_fldBn 5 rfl Tryz.underlying37 rfl Tryz.sizeOf35 (ev_tmp rfl) rfl) ?_
                refine sq_fact 4 rfl fun one_v72_4 => ?_
                refine sq_storeB1 2 rfl rfl rfl (ev_tmp rfl) (ev_tmp rfl) (as_is one_v72_4) rfl Tryz.sizeOf35 rfl ?_
                refine sq_nil ?_
                refine awp_seq ?_
                refine awp_region ?_
                refine sq_plain rfl rfl rfl (w_loadA 2 rfl (ev_tmp rfl) rfl Tryz.isAgg37 Tryz.sizeOf37 rfl) ?_
                refine sq_storeB0 1 rfl rfl rfl (ev_tmp rfl) (ev_tmp rfl) (as_agg _) rfl Tryz.sizeOf37 rfl ?_
                refine sq_nil ?_
                refine awp_ret ?_
                exact retG [3, 3] (x.1, v72_4) (trivial) rfl (by first | rfl | (show _ = [Own.arr _ _ _ _, Own.arr _ _ _ _]; unfold TRec.ow addRead; dsimp only; rw [List.map_append]; rfl) | (show _ = [Own.arr _ _ _ _, Own.arr _ _ _ _]; unfold TRec.ow addWrite; dsimp only; rw [List.map_append]; rfl)) (resR rfl (rv_cell (ys := _) 1 rfl rfl Tryz.isAgg37 Tryz.sizeOf37 rfl))
          · intro h43
            have k43 := ne_of_beqf h43; try simp only [List.length_map] at k43
            rw [if_neg (byte_not 33 h43)]
            refine awp_skip ?_
            refine awp_seq ?_
            refine awp_region ?_
            refine sq_plain rfl rfl rfl (w_loadA 1 rfl (ev_tmp rfl) rfl Tryz.isAgg37 Tryz.sizeOf37 rfl) ?_
            refine sq_storeB0 0 rfl rfl rfl (ev_tmp rfl) (ev_tmp rfl) (as_agg _) rfl Tryz.sizeOf37 rfl ?_
            refine sq_nil ?_
            refine awp_ret ?_
            exact retG [2, 2] (x.1, x.2) (trivial) rfl (by first | rfl | (show _ = [Own.arr _ _ _ _, Own.arr _ _ _ _]; unfold TRec.ow addRead; dsimp only; rw [List.map_append]; rfl) | (show _ = [Own.arr _ _ _ _, Own.arr _ _ _ _]; unfold TRec.ow addWrite; dsimp only; rw [List.map_append]; rfl)) (resR rfl (rv_cell (ys := _) 0 rfl rfl Tryz.isAgg37 Tryz.sizeOf37 rfl))
theorem readRecTextS_own (s : Str) (hs : s.length ≤ 1048576) : GSpec Tryz.prog 30 [AV.str s] [] (fun _ : Value × Value => True) (fun x => TRec.ow (readTxtR s).1 x) (fun x => AV.tup [AV.agg (TRec.ocs (readTxtR s).1 x), AV.bool (readTxtR s).2]) := by
  obtain ⟨r0, h0⟩ : ∃ r0, (readTxtR s).1 = r0 := ⟨_, rfl⟩
  have hno : ¬ TxtOf s r0 → readTxtR s = (emptyR, false) := fun h => readTxtR_no (by rw [h0]; exact h)
  obtain ⟨y0, ws, hw⟩ : ∃ y0 ws, splitC 32 s = y0 :: ws := by
    cases h : splitC 32 s with
    | nil => exact absurd h (splitC_ne 32 s)
    | cons a b => exact ⟨a, b, rfl⟩
  have hwl := splitC_cntW 32 s
  rw [hw, List.length_cons] at hwl
  have hmem : ∀ t ∈ ws, t.length ≤ s.length := fun t ht => splitC_len (c := 32) (by rw [hw]; exact List.mem_cons_of_mem _ ht)
  have hG : TxtOf s r0 → fullS (kindRS y0) ws = r0 := txt_fullS hw
  have h8 : rcWs.length = 5 := rfl
  refine gspec_of_awp Tryz.func30 rfl Tryz.ntmps30 rfl ?_
  refine awp_seq ?_
  refine awp_region ?_
  refine sq_alloc rfl rfl rfl rfl Tryz.zeroValue37 rfl ?_
  intro b2
  refine sq_plain rfl rfl rfl (w_assign rfl ev_cb) ?_
  refine sq_nil ?_
  refine awp_seq ?_
  refine awp_seq ?_
  refine awp_region ?_
  refine sq_plain rfl rfl rfl (w_move rfl (ev_tmp rfl)) ?_
  refine sq_plain rfl rfl rfl (w_slen rfl Tryz.underlying9 (ev_tmp rfl)) ?_
  refine sq_plain rfl rfl rfl (w_gtr rfl (ev_tmp rfl) ev_ci) ?_
  refine sq_nil ?_
  refine awp_cond (ev_tmp rfl) ?_ ?_
  · intro h13
    have k13 := of_decide_eq_true h13; try simp only [List.length_map] at k13
    have he := hno (fun h => by have := h.2.2; omega)
    rw [he]
    refine awp_seq ?_
    refine awp_region ?_
    refine sq_plain rfl rfl rfl (w_build (places := #[(0, 1), (1, 1), (2, 1), (3, 1), (4, 1), (5, 1), (6, 1)]) rfl Tryz.underlying37 Tryz.zeroValue37 (fun w => by kernel_rfl) rfl bp_nil rfl) ?_
    refine sq_storeB0 0 rfl rfl rfl (ev_tmp rfl) (ev_tmp rfl) (as_agg _) rfl Tryz.sizeOf37 rfl ?_
    refine sq_plain rfl rfl rfl (w_assign rfl ev_cb) ?_
    refine sq_nil ?_
    refine awp_ret ?_
    refine retG_nil 9 1 ?_
    refine retG_nil 79 3 ?_
    exact retG [1, 0] ((Value.slice none 0 0), (Value.slice none 0 0)) (trivial) rfl (by rfl) (resN rfl (by decide) (rv_cons (rv_cell (ys := _) 2 rfl rfl Tryz.isAgg37 Tryz.sizeOf37 rfl) (rv_cons (rv_tmp' rfl (by rfl)) rv_nil)))
  · intro h13
    have k13 := of_decide_eq_false h13; try simp only [List.length_map] at k13
    have hs4 : s.length ≤ 400 := by omega
    refine awp_skip ?_
    refine awp_seq ?_
    refine awp_region ?_
    refine sq_plain rfl rfl rfl (w_move rfl (ev_tmp rfl)) ?_
    refine sq_plain rfl rfl rfl (w_call rfl Tryz.call50 rfl (l1Split_spec s 32 hs) (evl_cons (ev_tmp rfl) (evl_cons ev_ci evl_nil))) ?_
    refine sq_plain rfl rfl rfl (w_assign rfl (ev_tmp rfl)) ?_
    refine sq_nil ?_
    refine awp_seq ?_
    rw [hw]
    refine awp_region ?_
    refine sq_alloc rfl rfl rfl rfl Tryz.zeroValue37 rfl ?_
    intro b5
    refine sq_nil ?_
    refine awp_seq ?_
    refine awp_seq ?_
    refine awp_region ?_
    refine sq_plain rfl rfl rfl (w_call rfl Tryz.call85 rfl (l4Words_spec) evl_nil) ?_
    refine sq_plain rfl rfl rfl (w_llen rfl Tryz.underlying34 (ev_tmp rfl)) ?_
    refine sq_plain rfl rfl rfl (w_move rfl ev_ci) ?_
    refine sq_nil ?_
    refine awp_block ?_
    refine awp_loop_i2 [(0, _), (2, _), (3, _), (4, _), (5, _), (17, _), (18, _)] _ (fun (k : Nat) (d : Int) => k ≤ 5 ∧ d = kindRN y0 k) (fun (k : Nat) (d : Int) => [.box b5 37 [AV.int d, AV.int 0, AV.int 0, AV.int 0, AV.nils, AV.nils, AV.bool false]]) (fun (k : Nat) (d : Int) => [(19, AV.int k)]) (fun (k : Nat) (d : Int) => 5 - k) (0) (0) ?_ (le_eq (by rfl) ⟨rfl, rfl, rfl, rfl, rfl, rfl, rfl, rfl, trivial⟩) ?_
    · exact ⟨Nat.zero_le _, rfl⟩
    intro k d hinv
    refine awp_seq ?_
    refine awp_region ?_
    refine sq_plain rfl rfl rfl (w_lss rfl (ev_tmp rfl) (ev_tmp rfl)) ?_
    refine sq_nil ?_
    refine awp_seq ?_
    refine awp_cond (ev_tmp rfl) ?_ ?_
    · intro h20
      have k20 := of_decide_eq_true h20; try simp only [List.length_map] at k20
      have hlt : k < rcWs.length := by omega
      obtain ⟨u, hu⟩ := get_some hlt
      refine awp_skip ?_
      refine awp_seq ?_
      refine awp_block ?_
      refine awp_seq ?_
      refine awp_region ?_
      refine sq_plain rfl rfl rfl (w_move rfl (ev_tmp rfl)) ?_
      refine sq_plain rfl rfl rfl (w_idxm rfl Tryz.underlying34 Tryz.sizeOf9 (ev_tmp rfl) (ev_tmp rfl) hu (by first | omega | ((try simp only [List.length_map, List.length_take, List.length_cons, List.length_nil, chunks_len, szR] at *); omega) | (have hc2 := hc; simp only [Bool.and_eq_true, Bool.or_eq_true, Bool.or_eq_false_iff, Bool.and_eq_false_iff, Bool.not_eq_true', Bool.not_eq_false', decide_eq_true_eq, decide_eq_false_iff_not, beq_iff_eq, bne_iff_ne, List.length_map, List.length_take] at hc2; omega))) ?_
      refine sq_plain rfl rfl rfl (w_loadE1 rfl (ev_tmp rfl) Tryz.isAgg9 rfl) ?_
      refine sq_plain rfl rfl rfl (w_assign rfl (ev_tmp rfl)) ?_
      refine sq_plain rfl rfl rfl (w_assign rfl (ev_tmp rfl)) ?_
      refine sq_nil ?_
      refine awp_seq ?_
      refine awp_region ?_
      refine sq_plain rfl rfl rfl (w_move rfl (ev_tmp rfl)) ?_
      refine sq_plain rfl rfl rfl (w_gtr rfl (ev_tmp rfl) ev_ci) ?_
      refine sq_plain rfl rfl rfl (w_move rfl (ev_tmp rfl)) ?_
      refine sq_grd rfl rfl (guard_t rfl rfl rfl) (fun hc => w_move rfl (ev_tmp rfl)) ?_
      refine sq_grd rfl rfl (guard_t rfl rfl rfl) (fun hc => w_move rfl (ev_tmp rfl)) ?_
      refine sq_grd rfl rfl (guard_t rfl rfl rfl) (fun hc => w_idxm rfl Tryz.underlying34 Tryz.sizeOf9 (ev_whn rfl hc) ev_ci (show (y0 :: ws)[0]? = some y0 from rfl) (by first | omega | ((try simp only [List.length_map, List.length_take, List.length_cons, List.length_nil, chunks_len, szR] at *); omega) | (have hc2 := hc; simp only [Bool.and_eq_true, Bool.or_eq_true, Bool.or_eq_false_iff, Bool.and_eq_false_iff, Bool.not_eq_true', Bool.not_eq_false', decide_eq_true_eq, decide_eq_false_iff_not, beq_iff_eq, bne_iff_ne, List.length_map, List.length_take] at hc2; omega))) ?_
      refine sq_grd rfl rfl (guard_t rfl rfl rfl) (fun hc => w_loadE1 rfl (ev_whn rfl hc) Tryz.isAgg9 rfl) ?_
      refine sq_grd rfl rfl (guard_t rfl rfl rfl) (fun hc => w_seql rfl (ev_whn rfl hc) (ev_whn rfl hc)) ?_
      refine sq_plain rfl rfl rfl (w_and rfl (ev_tmp rfl) (evif_w rfl)) ?_
      refine sq_nil ?_
      refine awp_cond (ev_tmp rfl) ?_ ?_
      · intro h32
        refine awp_region ?_
        refine sq_plain rfl rfl rfl (w_move rfl (ev_tmp rfl)) ?_
        refine sq_plain rfl rfl rfl (w_fldBn 0 rfl Tryz.underlying37 rfl Tryz.sizeOf3 (ev_tmp rfl) rfl) ?_
        refine sq_storeB1 0 rfl rfl rfl (ev_tmp rfl) (ev_tmp rfl) (as_ik _ _) rfl Tryz.sizeOf3 rfl ?_
        refine sq_nil ?_
        refine awp_region ?_
        refine sq_plain rfl rfl rfl (w_addi rfl (ev_tmp rfl) ev_ci (by first | omega | ((try simp only [List.length_map, List.length_take, List.length_cons, List.length_nil, chunks_len, szR] at *); omega) | (have hc2 := hc; simp only [Bool.and_eq_true, Bool.or_eq_true, Bool.or_eq_false_iff, Bool.and_eq_false_iff, Bool.not_eq_true', Bool.not_eq_false', decide_eq_true_eq, decide_eq_false_iff_not, beq_iff_eq, bne_iff_ne, List.length_map, List.length_take] at hc2; omega))) ?_
        refine sq_plain rfl rfl rfl (w_move rfl (ev_tmp rfl)) ?_
        refine sq_nil ?_
        refine round_end2 k d (k + 1) (k) ?_ ?_ (le_eq (by rfl) ⟨rfl, rfl, rfl, rfl, rfl, rfl, rfl, rfl, trivial⟩)
        · exact ⟨by omega, kindR_t hu h32⟩
        · omega
      · intro h32
        refine awp_skip ?_
        refine awp_region ?_
        refine sq_plain rfl rfl rfl (w_addi rfl (ev_tmp rfl) ev_ci (by first | omega | ((try simp only [List.length_map, List.length_take, List.length_cons, List.length_nil, chunks_len, szR] at *); omega) | (have hc2 := hc; simp only [Bool.and_eq_true, Bool.or_eq_true, Bool.or_eq_false_iff, Bool.and_eq_false_iff, Bool.not_eq_true', Bool.not_eq_false', decide_eq_true_eq, decide_eq_false_iff_not, beq_iff_eq, bne_iff_ne, List.length_map, List.length_take] at hc2; omega))) ?_
        refine sq_plain rfl rfl rfl (w_move rfl (ev_tmp rfl)) ?_
        refine sq_nil ?_
        refine round_end2 k d (k + 1) (d) ?_ ?_ (le_eq (by rfl) ⟨rfl, rfl, rfl, rfl, rfl, rfl, rfl, rfl, trivial⟩)
        · exact ⟨by omega, hinv.2.trans (kindR_f hu h32)⟩
        · omega
    · intro h20
      have k20 := of_decide_eq_false h20; try simp only [List.length_map] at k20
      have hge : k = 5 := by omega
      have hd : d = kindRS y0 := by (rw [hinv.2, hge]; rfl)
      subst hd
      refine awp_exit ?_
      refine awp_seq ?_
      refine awp_region ?_
      refine sq_plain rfl rfl rfl (w_move rfl (ev_tmp rfl)) ?_
      refine sq_plain rfl rfl rfl (w_lsl_lom rfl Tryz.underlying34 Tryz.sizeOf9 (ev_tmp rfl) ev_ci (by first | omega | ((try simp only [List.length_map, List.length_take, List.length_cons, List.length_nil, chunks_len, szR] at *); omega) | (have hc2 := hc; simp only [Bool.and_eq_true, Bool.or_eq_true, Bool.or_eq_false_iff, Bool.and_eq_false_iff, Bool.not_eq_true', Bool.not_eq_false', decide_eq_true_eq, decide_eq_false_iff_not, beq_iff_eq, bne_iff_ne, List.length_map, List.length_take] at hc2; omega)) (by first | omega | ((try simp only [List.length_map, List.length_take, List.length_cons, List.length_nil, chunks_len, szR] at *); omega) | (have hc2 := hc; simp only [Bool.and_eq_true, Bool.or_eq_true, Bool.or_eq_false_iff, Bool.and_eq_false_iff, Bool.not_eq_true', Bool.not_eq_false', decide_eq_true_eq, decide_eq_false_iff_not, beq_iff_eq, bne_iff_ne, List.length_map, List.length_take] at hc2; omega))) ?_
      refine sq_plain rfl rfl rfl (w_assign rfl (ev_tmp rfl)) ?_
      refine sq_nil ?_
      refine awp_seq ?_
      refine awp_seq ?_
      rw [show List.drop (Int.toNat 1) (y0 :: ws) = ws from rfl]
      refine awp_region ?_
      refine sq_plain rfl rfl rfl (w_fldBn 0 rfl Tryz.underlying37 rfl Tryz.sizeOf3 (ev_tmp rfl) rfl) ?_
      refine sq_plain rfl rfl rfl (w_loadB1 0 rfl (ev_tmp rfl) rfl Tryz.isAgg3 rfl) ?_
      refine sq_plain rfl rfl rfl (w_gtr rfl (ev_tmp rfl) ev_ci) ?_
      refine sq_plain rfl rfl rfl (w_move rfl (ev_tmp rfl)) ?_
      refine sq_grd rfl rfl (guard_t rfl rfl rfl) (fun hc => w_fldBn 0 rfl Tryz.underlying37 rfl Tryz.sizeOf3 (ev_tmp rfl) rfl) ?_
      refine sq_grd rfl rfl (guard_t rfl rfl rfl) (fun hc => w_loadB1 0 rfl (ev_whn rfl hc) rfl Tryz.isAgg3 rfl) ?_
      refine sq_grd rfl rfl (guard_t rfl rfl rfl) (fun hc => w_neq rfl (ev_whn rfl hc) ev_ci) ?_
      refine sq_plain rfl rfl rfl (w_and rfl (ev_tmp rfl) (evif_w rfl)) ?_
      refine sq_plain rfl rfl rfl (w_move rfl (ev_tmp rfl)) ?_
      refine sq_grd rfl rfl (guard_t rfl rfl rfl) (fun hc => w_move rfl (ev_tmp rfl)) ?_
      refine sq_grd rfl rfl (guard_t rfl rfl rfl) (fun hc => w_llen rfl Tryz.underlying34 (ev_whn rfl hc)) ?_
      refine sq_grd rfl rfl (guard_t rfl rfl rfl) (fun hc => w_gtr rfl (ev_whn rfl hc) ev_ci) ?_
      refine sq_plain rfl rfl rfl (w_and rfl (ev_tmp rfl) (evif_w rfl)) ?_
      refine sq_nil ?_
      refine awp_cond (ev_tmp rfl) ?_ ?_
      · intro h50
        obtain ⟨z, zs, hzs⟩ : ∃ z zs, ws = z :: zs := (by cases ws with | nil => simp at h50 | cons a b => exact ⟨a, b, rfl⟩)
        subst hzs
        have htx : txnS (startR (kindRS y0)) (z :: zs) = true := by (unfold txnS startR; simpa using h50)
        obtain ⟨q0, rest, hq0, hrest⟩ : ∃ q0 rest, q0 = setTxn (startR (kindRS y0)) (l1R z) ∧ rest = zs := ⟨_, _, rfl, rfl⟩
        have hfull : fullS (kindRS y0) (z :: zs) = foldS q0 rest := by (rw [hq0, hrest]; exact if_pos htx)
        have hzl : z.length ≤ 1048576 := Nat.le_trans (hmem z List.mem_cons_self) hs
        have hrm : ∀ t ∈ rest, t.length ≤ s.length := fun t ht => hmem t (List.mem_cons_of_mem _ (by rw [← hrest]; exact ht))
        have hrl : rest.length ≤ 400 := by (rw [hrest]; rw [List.length_cons] at hwl; omega)
        have hsz0 : SzR q0 0 := by (rw [hq0]; exact ⟨Nat.le_refl _, Nat.le_refl _, by simp [setTxn, startR, TRec.size, sizeL]⟩)
        refine awp_seq ?_
        refine awp_region ?_
        refine sq_plain rfl rfl rfl (w_move rfl (ev_tmp rfl)) ?_
        refine sq_plain rfl rfl rfl (w_idxm rfl Tryz.underlying34 Tryz.sizeOf9 (ev_tmp rfl) ev_ci (show (z :: zs)[0]? = some z from rfl) (by first | omega | ((try simp only [List.length_map, List.length_take, List.length_cons, List.length_nil, chunks_len, szR] at *); omega) | (have hc2 := hc; simp only [Bool.and_eq_true, Bool.or_eq_true, Bool.or_eq_false_iff, Bool.and_eq_false_iff, Bool.not_eq_true', Bool.not_eq_false', decide_eq_true_eq, decide_eq_false_iff_not, beq_iff_eq, bne_iff_ne, List.length_map, List.length_take] at hc2; omega))) ?_
        refine sq_plain rfl rfl rfl (w_loadE1 rfl (ev_tmp rfl) Tryz.isAgg9 rfl) ?_
        refine sq_plain rfl rfl rfl (w_call rfl Tryz.call86 rfl (l1Read_spec z hzl) (evl_cons (ev_tmp rfl) evl_nil)) ?_
        refine sq_plain rfl rfl rfl (w_fldBn 1 rfl Tryz.underlying37 rfl Tryz.sizeOf3 (ev_tmp rfl) rfl) ?_
        refine sq_storeB1 0 rfl rfl rfl (ev_tmp rfl) (ev_tmp rfl) (as_ik _ _) rfl Tryz.sizeOf3 rfl ?_
        refine sq_nil ?_
        refine awp_region ?_
        refine sq_plain rfl rfl rfl (w_move rfl (ev_tmp rfl)) ?_
        refine sq_plain rfl rfl rfl (w_lsl_lom rfl Tryz.underlying34 Tryz.sizeOf9 (ev_tmp rfl) ev_ci (by first | omega | ((try simp only [List.length_map, List.length_take, List.length_cons, List.length_nil, chunks_len, szR] at *); omega) | (have hc2 := hc; simp only [Bool.and_eq_true, Bool.or_eq_true, Bool.or_eq_false_iff, Bool.and_eq_false_iff, Bool.not_eq_true', Bool.not_eq_false', decide_eq_true_eq, decide_eq_false_iff_not, beq_iff_eq, bne_iff_ne, List.length_map, List.length_take] at hc2; omega)) (by first | omega | ((try simp only [List.length_map, List.length_take, List.length_cons, List.length_nil, chunks_len, szR] at *); omega) | (have hc2 := hc; simp only [Bool.and_eq_true, Bool.or_eq_true, Bool.or_eq_false_iff, Bool.and_eq_false_iff, Bool.not_eq_true', Bool.not_eq_false', decide_eq_true_eq, decide_eq_false_iff_not, beq_iff_eq, bne_iff_ne, List.length_map, List.length_take] at hc2; omega))) ?_
        refine sq_plain rfl rfl rfl (w_assign rfl (ev_tmp rfl)) ?_
        refine sq_nil ?_
        refine awp_seq ?_
        refine awp_seq ?_
        first | rw [show List.drop (Int.toNat 1) (z :: zs) = rest from hrest.symm] | rw [← hrest]
        refine awp_region ?_
        refine sq_plain rfl rfl rfl (w_move rfl (ev_tmp rfl)) ?_
        refine sq_plain rfl rfl rfl (w_llen rfl Tryz.underlying34 (ev_tmp rfl)) ?_
        refine sq_plain rfl rfl rfl (w_move rfl ev_ci) ?_
        refine sq_nil ?_
        refine awp_block ?_
        refine awp_nilown 9 1 ?_
        refine awp_nilown 79 3 ?_
        refine AWP.le (le_pick [2, 1, 0] rfl) ?_
        refine awp_loop_i4 [(0, _), (2, _), (3, _), (5, _), (58, _), (59, _)] _ (fun (i : Nat) (c : TRec) (v : Value) (u : Value) => (i ≤ rest.length ∧ SzR c i) ∧ c = foldS q0 (rest.take i)) (fun (i : Nat) (c : TRec) (v : Value) (u : Value) => [.box b5 37 (TRec.ocs c (v, u)), .arr v 9 1 (c.Reads.map fun t => [AV.str t]), .arr u 79 3 (c.Writes.map TWrite.cs)]) (fun (i : Nat) (c : TRec) (v : Value) (u : Value) => [(60, AV.int i)]) (fun (i : Nat) (c : TRec) (v : Value) (u : Value) => rest.length - i) (0) (q0) ((Value.slice none 0 0)) ((Value.slice none 0 0)) ?_ (le_eq (by (rw [hq0]; rfl)) ⟨rfl, rfl, rfl, rfl, rfl, rfl, rfl, trivial⟩) ?_
        · exact ⟨⟨Nat.zero_le _, hsz0⟩, by rw [List.take_zero]; rfl⟩
        intro i c v u hinv
        refine awp_seq ?_
        refine awp_region ?_
        refine sq_plain rfl rfl rfl (w_lss rfl (ev_tmp rfl) (ev_tmp rfl)) ?_
        refine sq_nil ?_
        refine awp_seq ?_
        refine awp_cond (ev_tmp rfl) ?_ ?_
        · intro h61
          have k61 := of_decide_eq_true h61; try simp only [List.length_map] at k61
          have hlt : i < rest.length := by omega
          obtain ⟨x, hx⟩ := get_some hlt
          have hx4 : x.length ≤ 400 := Nat.le_trans (hrm x (List.mem_of_getElem? hx)) hs4
          have hsr := hinv.1.2.reads
          have hsw := hinv.1.2.writes
          refine awp_skip ?_
          refine awp_seq ?_
          refine awp_block ?_
          refine awp_seq ?_
          refine awp_region ?_
          refine sq_plain rfl rfl rfl (w_idxm rfl Tryz.underlying34 Tryz.sizeOf9 (ev_tmp rfl) (ev_tmp rfl) hx (by first | omega | ((try simp only [List.length_map, List.length_take, List.length_cons, List.length_nil, chunks_len, szR] at *); omega) | (have hc2 := hc; simp only [Bool.and_eq_true, Bool.or_eq_true, Bool.or_eq_false_iff, Bool.and_eq_false_iff, Bool.not_eq_true', Bool.not_eq_false', decide_eq_true_eq, decide_eq_false_iff_not, beq_iff_eq, bne_iff_ne, List.length_map, List.length_take] at hc2; omega))) ?_
          refine sq_plain rfl rfl rfl (w_loadE1 rfl (ev_tmp rfl) Tryz.isAgg9 rfl) ?_
          refine sq_plain rfl rfl rfl (w_assign rfl (ev_tmp rfl)) ?_
          refine sq_nil ?_
          refine awp_region ?_
          refine sq_plain rfl rfl rfl (w_loadA 0 rfl (ev_tmp rfl) rfl Tryz.isAgg37 Tryz.sizeOf37 rfl) ?_
          refine sq_plain rfl rfl rfl (w_move rfl (ev_tmp rfl)) ?_
          refine sq_callG [1, 1] rfl rfl rfl rfl Tryz.call87 rfl (l4Word_own c (v, u) x (by omega) (by omega) (by omega)) (evl_cons (ev_tmp rfl) (evl_cons (ev_tmp rfl) evl_nil)) rfl ?_
          intro x66 ok66
          refine sq_storeB0 2 rfl rfl rfl (ev_tmp rfl) (ev_tmp rfl) (as_agg _) rfl Tryz.sizeOf37 rfl ?_
          refine sq_nil ?_
          refine awp_region ?_
          refine sq_plain rfl rfl rfl (w_addi rfl (ev_tmp rfl) ev_ci (by first | omega | ((try simp only [List.length_map, List.length_take, List.length_cons, List.length_nil, chunks_len, szR] at *); omega) | (have hc2 := hc; simp only [Bool.and_eq_true, Bool.or_eq_true, Bool.or_eq_false_iff, Bool.and_eq_false_iff, Bool.not_eq_true', Bool.not_eq_false', decide_eq_true_eq, decide_eq_false_iff_not, beq_iff_eq, bne_iff_ne, List.length_map, List.length_take] at hc2; omega))) ?_
          refine sq_plain rfl rfl rfl (w_move rfl (ev_tmp rfl)) ?_
          refine sq_nil ?_
          refine round_end4 i c v u (i + 1) (wordS c x) (x66.1) (x66.2) ?_ ?_ (Le.trans (le_pick [2, 0, 0] rfl) (le_eq (by rfl) ⟨rfl, rfl, rfl, rfl, rfl, rfl, rfl, trivial⟩))
          · exact ⟨⟨by omega, wordS_sz hinv.1.2 hx4⟩, foldS_next hx hinv.2⟩
          · omega
        · intro h61
          have k61 := of_decide_eq_false h61; try simp only [List.length_map] at k61
          have hge : rest.length ≤ i := by omega
          have hcr : TxtOf s r0 → c = r0 := fun h => by (rw [hinv.2, List.take_of_length_le hge, ← hfull]; exact hG h)
          have hsz := szR_big hinv.1.2 (by omega)
          refine awp_exit ?_
          refine awp_seq ?_
          refine awp_seq ?_
          refine awp_region ?_
          refine sq_plain rfl rfl rfl (w_loadA 0 rfl (ev_tmp rfl) rfl Tryz.isAgg37 Tryz.sizeOf37 rfl) ?_
          refine sq_plain rfl rfl rfl (w_callB rfl Tryz.call56 rfl (l4Good_spec c hsz) (flat_bool _) (evlb_cons (evb_lt (ev_tmp rfl) (lt_agg (lc_cons lt_refl (lc_cons lt_refl (lc_cons lt_refl (lc_cons lt_refl (lc_cons (lt_arr (List.mem_of_getElem? (i := 1) rfl) le_refl_e) (lc_cons (lt_arr (List.mem_of_getElem? (i := 2) rfl) le_refl_e) (lc_cons lt_refl lc_nil))))))))) evlb_nil)) ?_
          refine sq_plain rfl rfl rfl (w_not rfl (ev_tmp rfl)) ?_
          refine sq_plain rfl rfl rfl (w_move rfl (ev_tmp rfl)) ?_
          refine sq_grd rfl rfl (guard_f rfl rfl rfl) (fun hc => w_loadA 0 rfl (ev_tmp rfl) rfl Tryz.isAgg37 Tryz.sizeOf37 rfl) ?_
          refine sq_grd rfl rfl (guard_f rfl rfl rfl) (fun hc => w_callB rfl Tryz.call59 rfl (l4Text_spec c (by rw [goodRec_eq]; simpa using hc)) (flat_str _) (evlb_cons (evb_lt (ev_whn rfl hc) (lt_agg (lc_cons lt_refl (lc_cons lt_refl (lc_cons lt_refl (lc_cons lt_refl (lc_cons (lt_arr (List.mem_of_getElem? (i := 1) rfl) le_refl_e) (lc_cons (lt_arr (List.mem_of_getElem? (i := 2) rfl) le_refl_e) (lc_cons lt_refl lc_nil))))))))) evlb_nil)) ?_
          refine sq_grd rfl rfl (guard_f rfl rfl rfl) (fun hc => w_move rfl (ev_tmp rfl)) ?_
          refine sq_grd rfl rfl (guard_f rfl rfl rfl) (fun hc => w_sneq rfl (ev_whn rfl hc) (ev_whn rfl hc)) ?_
          refine sq_plain rfl rfl rfl (w_or rfl (ev_tmp rfl) (evif_w rfl)) ?_
          refine sq_nil ?_
          refine awp_cond (ev_tmp rfl) ?_ ?_
          · intro h76
            have he := readTxt_end h0 hcr (by rw [goodRec_eq]; exact h76)
            rw [he]
            refine awp_seq ?_
            refine awp_region ?_
            refine sq_plain rfl rfl rfl (w_build (places := #[(0, 1), (1, 1), (2, 1), (3, 1), (4, 1), (5, 1), (6, 1)]) rfl Tryz.underlying37 Tryz.zeroValue37 (fun w => by kernel_rfl) rfl bp_nil rfl) ?_
            refine sq_storeB0 3 rfl rfl rfl (ev_tmp rfl) (ev_tmp rfl) (as_agg _) rfl Tryz.sizeOf37 rfl ?_
            refine sq_plain rfl rfl rfl (w_assign rfl ev_cb) ?_
            refine sq_nil ?_
            refine awp_ret ?_
            refine retG_nil 9 1 ?_
            refine retG_nil 79 3 ?_
            exact retG [1, 0] ((Value.slice none 0 0), (Value.slice none 0 0)) (trivial) rfl (by rfl) (resN rfl (by decide) (rv_cons (rv_cell (ys := _) 5 rfl rfl Tryz.isAgg37 Tryz.sizeOf37 rfl) (rv_cons (rv_tmp' rfl (by rfl)) rv_nil)))
          · intro h76
            simp only [Bool.or_eq_false_iff, Bool.not_eq_false', bne_eq_false_iff_eq] at h76
            have he := readTxtR_of (by rw [goodRec_eq]; exact h76.1) (by rw [h76.2]; omega)
            rw [h76.2] at he
            rw [he]
            refine awp_skip ?_
            refine awp_seq ?_
            refine awp_region ?_
            refine sq_plain rfl rfl rfl (w_loadA 0 rfl (ev_tmp rfl) rfl Tryz.isAgg37 Tryz.sizeOf37 rfl) ?_
            refine sq_storeB0 3 rfl rfl rfl (ev_tmp rfl) (ev_tmp rfl) (as_agg _) rfl Tryz.sizeOf37 rfl ?_
            refine sq_plain rfl rfl rfl (w_assign rfl ev_cb) ?_
            refine sq_nil ?_
            refine awp_ret ?_
            exact retG [1, 1] (v, u) (trivial) rfl (by rfl) (resN rfl (by decide) (rv_cons (rv_cell (ys := _) 3 rfl rfl Tryz.isAgg37 Tryz.sizeOf37 rfl) (rv_cons (rv_tmp' rfl (by rfl)) rv_nil)))
      · intro h50
        have htx : ¬ txnS (startR (kindRS y0)) ws = true := fun e => (by have e2 : (decide (0 < kindRS y0) && (kindRS y0 != 4) && decide ((0 : Int) < (ws.length : Int))) = true := e; rw [List.length_map, e2] at h50; cases h50)
        obtain ⟨q0, rest, hq0, hrest⟩ : ∃ q0 rest, q0 = startR (kindRS y0) ∧ rest = ws := ⟨_, _, rfl, rfl⟩
        have hfull : fullS (kindRS y0) ws = foldS q0 rest := by (rw [hq0, hrest]; exact if_neg htx)
        have hrm : ∀ t ∈ rest, t.length ≤ s.length := fun t ht => hmem t (by rw [← hrest]; exact ht)
        have hrl : rest.length ≤ 400 := by (rw [hrest]; omega)
        have hsz0 : SzR q0 0 := by (rw [hq0]; exact szR_zero _)
        refine awp_skip ?_
        refine awp_seq ?_
        refine awp_seq ?_
        first | rw [show List.drop (Int.toNat 1) (z :: zs) = rest from hrest.symm] | rw [← hrest]
        refine awp_region ?_
        refine sq_plain rfl rfl rfl (w_move rfl (ev_tmp rfl)) ?_
        refine sq_plain rfl rfl rfl (w_llen rfl Tryz.underlying34 (ev_tmp rfl)) ?_
        refine sq_plain rfl rfl rfl (w_move rfl ev_ci) ?_
        refine sq_nil ?_
        refine awp_block ?_
        refine awp_nilown 9 1 ?_
        refine awp_nilown 79 3 ?_
        refine AWP.le (le_pick [2, 1, 0] rfl) ?_
        refine awp_loop_i4 [(0, _), (2, _), (3, _), (5, _), (58, _), (59, _)] _ (fun (i : Nat) (c : TRec) (v : Value) (u : Value) => (i ≤ rest.length ∧ SzR c i) ∧ c = foldS q0 (rest.take i)) (fun (i : Nat) (c : TRec) (v : Value) (u : Value) => [.box b5 37 (TRec.ocs c (v, u)), .arr v 9 1 (c.Reads.map fun t => [AV.str t]), .arr u 79 3 (c.Writes.map TWrite.cs)]) (fun (i : Nat) (c : TRec) (v : Value) (u : Value) => [(60, AV.int i)]) (fun (i : Nat) (c : TRec) (v : Value) (u : Value) => rest.length - i) (0) (q0) ((Value.slice none 0 0)) ((Value.slice none 0 0)) ?_ (le_eq (by (rw [hq0]; rfl)) ⟨rfl, rfl, rfl, rfl, rfl, rfl, rfl, trivial⟩) ?_
        · exact ⟨⟨Nat.zero_le _, hsz0⟩, by rw [List.take_zero]; rfl⟩
        intro i c v u hinv
        refine awp_seq ?_
        refine awp_region ?_
        refine sq_plain rfl rfl rfl (w_lss rfl (ev_tmp rfl) (ev_tmp rfl)) ?_
        refine sq_nil ?_
        refine awp_seq ?_
        refine awp_cond (ev_tmp rfl) ?_ ?_
        · intro h61
          have k61 := of_decide_eq_true h61; try simp only [List.length_map] at k61
          have hlt : i < rest.length := by omega
          obtain ⟨x, hx⟩ := get_some hlt
          have hx4 : x.length ≤ 400 := Nat.le_trans (hrm x (List.mem_of_getElem? hx)) hs4
          have hsr := hinv.1.2.reads
          have hsw := hinv.1.2.writes
          refine awp_skip ?_
          refine awp_seq ?_
          refine awp_block ?_
          refine awp_seq ?_
          refine awp_region ?_
          refine sq_plain rfl rfl rfl (w_idxm rfl Tryz.underlying34 Tryz.sizeOf9 (ev_tmp rfl) (ev_tmp rfl) hx (by first | omega | ((try simp only [List.length_map, List.length_take, List.length_cons, List.length_nil, chunks_len, szR] at *); omega) | (have hc2 := hc; simp only [Bool.and_eq_true, Bool.or_eq_true, Bool.or_eq_false_iff, Bool.and_eq_false_iff, Bool.not_eq_true', Bool.not_eq_false', decide_eq_true_eq, decide_eq_false_iff_not, beq_iff_eq, bne_iff_ne, List.length_map, List.length_take] at hc2; omega))) ?_
          refine sq_plain rfl rfl rfl (w_loadE1 rfl (ev_tmp rfl) Tryz.isAgg9 rfl) ?_
          refine sq_plain rfl rfl rfl (w_assign rfl (ev_tmp rfl)) ?_
          refine sq_nil ?_
          refine awp_region ?_
          refine sq_plain rfl rfl rfl (w_loadA 0 rfl (ev_tmp rfl) rfl Tryz.isAgg37 Tryz.sizeOf37 rfl) ?_
          refine sq_plain rfl rfl rfl (w_move rfl (ev_tmp rfl)) ?_
          refine sq_callG [1, 1] rfl rfl rfl rfl Tryz.call87 rfl (l4Word_own c (v, u) x (by omega) (by omega) (by omega)) (evl_cons (ev_tmp rfl) (evl_cons (ev_tmp rfl) evl_nil)) rfl ?_
          intro x66 ok66
          refine sq_storeB0 2 rfl rfl rfl (ev_tmp rfl) (ev_tmp rfl) (as_agg _) rfl Tryz.sizeOf37 rfl ?_
          refine sq_nil ?_
          refine awp_region ?_
          refine sq_plain rfl rfl rfl (w_addi rfl (ev_tmp rfl) ev_ci (by first | omega | ((try simp only [List.length_map, List.length_take, List.length_cons, List.length_nil, chunks_len, szR] at *); omega) | (have hc2 := hc; simp only [Bool.and_eq_true, Bool.or_eq_true, Bool.or_eq_false_iff, Bool.and_eq_false_iff, Bool.not_eq_true', Bool.not_eq_false', decide_eq_true_eq, decide_eq_false_iff_not, beq_iff_eq, bne_iff_ne, List.length_map, List.length_take] at hc2; omega))) ?_
          refine sq_plain rfl rfl rfl (w_move rfl (ev_tmp rfl)) ?_
          refine sq_nil ?_
          refine round_end4 i c v u (i + 1) (wordS c x) (x66.1) (x66.2) ?_ ?_ (Le.trans (le_pick [2, 0, 0] rfl) (le_eq (by rfl) ⟨rfl, rfl, rfl, rfl, rfl, rfl, rfl, trivial⟩))
          · exact ⟨⟨by omega, wordS_sz hinv.1.2 hx4⟩, foldS_next hx hinv.2⟩
          · omega
        · intro h61
          have k61 := of_decide_eq_false h61; try simp only [List.length_map] at k61
          have hge : rest.length ≤ i := by omega
          have hcr : TxtOf s r0 → c = r0 := fun h => by (rw [hinv.2, List.take_of_length_le hge, ← hfull]; exact hG h)
          have hsz := szR_big hinv.1.2 (by omega)
          refine awp_exit ?_
          refine awp_seq ?_
          refine awp_seq ?_
          refine awp_region ?_
          refine sq_plain rfl rfl rfl (w_loadA 0 rfl (ev_tmp rfl) rfl Tryz.isAgg37 Tryz.sizeOf37 rfl) ?_
          refine sq_plain rfl rfl rfl (w_callB rfl Tryz.call56 rfl (l4Good_spec c hsz) (flat_bool _) (evlb_cons (evb_lt (ev_tmp rfl) (lt_agg (lc_cons lt_refl (lc_cons lt_refl (lc_cons lt_refl (lc_cons lt_refl (lc_cons (lt_arr (List.mem_of_getElem? (i := 1) rfl) le_refl_e) (lc_cons (lt_arr (List.mem_of_getElem? (i := 2) rfl) le_refl_e) (lc_cons lt_refl lc_nil))))))))) evlb_nil)) ?_
          refine sq_plain rfl rfl rfl (w_not rfl (ev_tmp rfl)) ?_
          refine sq_plain rfl rfl rfl (w_move rfl (ev_tmp rfl)) ?_
          refine sq_grd rfl rfl (guard_f rfl rfl rfl) (fun hc => w_loadA 0 rfl (ev_tmp rfl) rfl Tryz.isAgg37 Tryz.sizeOf37 rfl) ?_
          refine sq_grd rfl rfl (guard_f rfl rfl rfl) (fun hc => w_callB rfl Tryz.call59 rfl (l4Text_spec c (by rw [goodRec_eq]; simpa using hc)) (flat_str _) (evlb_cons (evb_lt (ev_whn rfl hc) (lt_agg (lc_cons lt_refl (lc_cons lt_refl (lc_cons lt_refl (lc_cons lt_refl (lc_cons (lt_arr (List.mem_of_getElem? (i := 1) rfl) le_refl_e) (lc_cons (lt_arr (List.mem_of_getElem? (i := 2) rfl) le_refl_e) (lc_cons lt_refl lc_nil))))))))) evlb_nil)) ?_
          refine sq_grd rfl rfl (guard_f rfl rfl rfl) (fun hc => w_move rfl (ev_tmp rfl)) ?_
          refine sq_grd rfl rfl (guard_f rfl rfl rfl) (fun hc => w_sneq rfl (ev_whn rfl hc) (ev_whn rfl hc)) ?_
          refine sq_plain rfl rfl rfl (w_or rfl (ev_tmp rfl) (evif_w rfl)) ?_
          refine sq_nil ?_
          refine awp_cond (ev_tmp rfl) ?_ ?_
          · intro h76
            have he := readTxt_end h0 hcr (by rw [goodRec_eq]; exact h76)
            rw [he]
            refine awp_seq ?_
            refine awp_region ?_
            refine sq_plain rfl rfl rfl (w_build (places := #[(0, 1), (1, 1), (2, 1), (3, 1), (4, 1), (5, 1), (6, 1)]) rfl Tryz.underlying37 Tryz.zeroValue37 (fun w => by kernel_rfl) rfl bp_nil rfl) ?_
            refine sq_storeB0 3 rfl rfl rfl (ev_tmp rfl) (ev_tmp rfl) (as_agg _) rfl Tryz.sizeOf37 rfl ?_
            refine sq_plain rfl rfl rfl (w_assign rfl ev_cb) ?_
            refine sq_nil ?_
            refine awp_ret ?_
            refine retG_nil 9 1 ?_
            refine retG_nil 79 3 ?_
            exact retG [1, 0] ((Value.slice none 0 0), (Value.slice none 0 0)) (trivial) rfl (by rfl) (resN rfl (by decide) (rv_cons (rv_cell (ys := _) 5 rfl rfl Tryz.isAgg37 Tryz.sizeOf37 rfl) (rv_cons (rv_tmp' rfl (by rfl)) rv_nil)))
          · intro h76
            simp only [Bool.or_eq_false_iff, Bool.not_eq_false', bne_eq_false_iff_eq] at h76
            have he := readTxtR_of (by rw [goodRec_eq]; exact h76.1) (by rw [h76.2]; omega)
            rw [h76.2] at he
            rw [he]
            refine awp_skip ?_
            refine awp_seq ?_
            refine awp_region ?_
            refine sq_plain rfl rfl rfl (w_loadA 0 rfl (ev_tmp rfl) rfl Tryz.isAgg37 Tryz.sizeOf37 rfl) ?_
            refine sq_storeB0 3 rfl rfl rfl (ev_tmp rfl) (ev_tmp rfl) (as_agg _) rfl Tryz.sizeOf37 rfl ?_
            refine sq_plain rfl rfl rfl (w_assign rfl ev_cb) ?_
            refine sq_nil ?_
            refine awp_ret ?_
            exact retG [1, 1] (v, u) (trivial) rfl (by rfl) (resN rfl (by decide) (rv_cons (rv_cell (ys := _) 3 rfl rfl Tryz.isAgg37 Tryz.sizeOf37 rfl) (rv_cons (rv_tmp' rfl (by rfl)) rv_nil)))
end Go.Proofs.YtmlmmgeadombbaaGreatDoor

set_option linter.unusedVariables false
set_option linter.unusedSimpArgs false
set_option linter.unusedSectionVars false
namespace Go.M
open Go.AV
section
variable {α : Type} [Inhabited α]
structure Swo (lt : α → α → Bool) : Prop where
  asym : ∀ a b, lt a b = true → lt b a = false
  ntr : ∀ a b c, lt b a = false → lt c b = false → lt c a = false
def InR (l : List α) (a b : Nat) (x : α) : Prop := ∃ i, a ≤ i ∧ i < b ∧ l[i]? = some x
structure Shuf (l l' : List α) (a b : Nat) : Prop where
  len : l'.length = l.length
  perm : l'.Perm l
  out : ∀ i, i < a ∨ b ≤ i → l'[i]? = l[i]?
  inn : ∀ x, InR l' a b x → InR l a b x
theorem Shuf.trans {l l' l'' : List α} {a b : Nat} (h : Shuf l l' a b) (k : Shuf l' l'' a b) : Shuf l l'' a b :=
  ⟨k.len.trans h.len, k.perm.trans h.perm, fun i hi => (k.out i hi).trans (h.out i hi), fun x hx => h.inn x (k.inn x hx)⟩
end
end Go.M

set_option linter.unusedVariables false
set_option linter.unusedSimpArgs false
set_option linter.unusedSectionVars false
namespace Go.M
open Go.AV
section
variable {α : Type} [Inhabited α] [DecidableEq α]
def cmpN (l : List α) : Nat → List α
  | 0 => []
  | n + 1 => if n ≠ 0 ∧ l[n]? = l[n - 1]? then cmpN l n else cmpN l n ++ (l[n]?).toList
def cmpL (l : List α) : List α := cmpN l l.length
theorem cmpN_same {l : List α} {n : Nat} (h0 : n ≠ 0) (h : l[n]? = l[n - 1]?) : cmpN l (n + 1) = cmpN l n := if_pos ⟨h0, h⟩
theorem cmpN_diff {l : List α} {n : Nat} {x : α} (hx : l[n]? = some x) (h : n = 0 ∨ l[n]? ≠ l[n - 1]?) : cmpN l (n + 1) = cmpN l n ++ [x] := by
  show (if n ≠ 0 ∧ l[n]? = l[n - 1]? then cmpN l n else cmpN l n ++ (l[n]?).toList) = _
  rw [if_neg (fun e => h.elim (fun f => e.1 f) fun f => f e.2), hx]; rfl
theorem cmpN_take {l : List α} : ∀ {n : Nat}, n ≤ l.length → (∀ i, 1 ≤ i → i < n → l[i]? ≠ l[i - 1]?) → cmpN l n = l.take n
  | 0, _, _ => by rw [List.take_zero]; rfl
  | n + 1, hn, h => by
    have hx : l[n]? = some l[n] := List.getElem?_eq_getElem (by omega)
    rw [cmpN_diff hx (by by_cases e : n = 0; exact .inl e; exact .inr (h n (by omega) (by omega))), cmpN_take (by omega) (fun i h1 h2 => h i h1 (by omega)), List.take_add_one, hx]; rfl
theorem drop_eq_get2 {m l : List α} {i j : Nat} {x : α} (h : m.drop i = l.drop i) (hx : l[j]? = some x) (hij : i ≤ j) : m[j]? = some x := by
  have h1 := congrArg (fun z : List α => z[j - i]?) h
  simp only [List.getElem?_drop, show i + (j - i) = j by omega] at h1
  rw [h1, hx]
theorem cmp_keep {l m : List α} {k i j : Nat} {x y : α} (h : 1 ≤ j ∧ k + j ≤ l.length ∧ i + 1 ≤ k + j ∧ m.length = l.length ∧ m.take i = cmpN l (k + j) ∧ m.drop (k + j - 1) = l.drop (k + j - 1)) (hlt : k + j < l.length) (hx : l[k + j]? = some x) (hy : l[k + j - 1]? = some y) (hn : x ≠ y) :
    1 ≤ j + 1 ∧ k + (j + 1) ≤ l.length ∧ i + 1 + 1 ≤ k + (j + 1) ∧ (m.set i x).length = l.length ∧ (m.set i x).take (i + 1) = cmpN l (k + (j + 1)) ∧ (m.set i x).drop (k + (j + 1) - 1) = l.drop (k + (j + 1) - 1) := by
  obtain ⟨h1, h2, h3, h4, h5, h6⟩ := h
  refine ⟨by omega, by omega, by omega, by rw [List.length_set, h4], ?_, ?_⟩
  · rw [List.take_add_one, List.getElem?_set_self (by omega), List.take_set_of_le (Nat.le_refl _), h5, ← Nat.add_assoc, cmpN_diff hx (.inr (by rw [hx, hy]; intro e; injection e with e; exact hn e))]; rfl
  · rw [List.drop_set_of_lt (by omega), show k + (j + 1) - 1 = k + j - 1 + 1 by omega, ← List.drop_drop, h6, List.drop_drop]
theorem cmp_skip {l m : List α} {k i j : Nat} {x y : α} (h : 1 ≤ j ∧ k + j ≤ l.length ∧ i + 1 ≤ k + j ∧ m.length = l.length ∧ m.take i = cmpN l (k + j) ∧ m.drop (k + j - 1) = l.drop (k + j - 1)) (hlt : k + j < l.length) (hx : l[k + j]? = some x) (hy : l[k + j - 1]? = some y) (hn : x = y) :
    1 ≤ j + 1 ∧ k + (j + 1) ≤ l.length ∧ i + 1 ≤ k + (j + 1) ∧ m.length = l.length ∧ m.take i = cmpN l (k + (j + 1)) ∧ m.drop (k + (j + 1) - 1) = l.drop (k + (j + 1) - 1) := by
  obtain ⟨h1, h2, h3, h4, h5, h6⟩ := h
  refine ⟨by omega, by omega, by omega, h4, ?_, ?_⟩
  · rw [h5, ← Nat.add_assoc, cmpN_same (by omega) (by rw [hx, hy, hn])]
  · rw [show k + (j + 1) - 1 = k + j - 1 + 1 by omega, ← List.drop_drop, h6, List.drop_drop]
theorem cmp_end {l m : List α} {f : α → List AV} {k i j q : Nat} {z : List AV} (h : m.take i = cmpN l (k + j)) (hk : k + j = l.length) (hi : i ≤ m.length) : (((m.map f).take (i : Int).toNat ++ List.replicate q z).take (i : Int).toNat) = (cmpL l).map f := by
  unfold cmpL
  rw [← hk, ← h, Int.toNat_natCast, List.map_take, List.take_left' (by rw [List.length_take, List.length_map]; omega)]
end
end Go.M

set_option linter.unusedVariables false
set_option linter.unusedSimpArgs false
namespace Go.M
end Go.M

set_option linter.unusedVariables false
set_option linter.unusedSimpArgs false
namespace Go.M
theorem gt_less (a b : Str) : (!(Op.bytesLess a b || a == b)) = Op.bytesLess b a := by
  have h := bytesLess_tri a b
  cases h1 : Op.bytesLess a b
  · cases h2 : Op.bytesLess b a
    · rw [h1, h2] at h; simp at h; simp [h]
    · simp; intro hc; subst hc; rw [bytesLess_irrefl] at h2; cases h2
  · simp; cases h2 : Op.bytesLess b a with
    | false => rfl
    | true => have := bytesLess_trans h1 h2; rw [bytesLess_irrefl] at this; cases this
end Go.M

set_option linter.unusedVariables false
set_option linter.unusedSimpArgs false
namespace Go.M
end Go.M

set_option linter.unusedVariables false
set_option linter.unusedSimpArgs false
namespace Go.M
end Go.M

set_option linter.unusedVariables false
set_option linter.unusedSimpArgs false
namespace Go.M
end Go.M

set_option linter.unusedVariables false
set_option linter.unusedSimpArgs false
namespace Go.M
theorem key_cases (a b : Str) : Op.bytesLess a b = true ∨ a = b ∨ Op.bytesLess b a = true := by
  have h := bytesLess_tri a b
  cases h1 : Op.bytesLess a b
  · cases h2 : Op.bytesLess b a
    · rw [h1, h2] at h; simp at h; exact .inr (.inl h.symm)
    · exact .inr (.inr rfl)
  · exact .inl rfl
end Go.M

set_option linter.unusedVariables false
set_option linter.unusedSimpArgs false
namespace Go.M
open Go.AV
def SrtS (l : List Str) : Prop := l.Pairwise fun a b => Op.bytesLess a b = true
theorem srtS_ext : ∀ {a b : List Str}, SrtS a → SrtS b → (∀ x, x ∈ a ↔ x ∈ b) → a = b
  | [], [], _, _, _ => rfl
  | [], y :: b, _, _, h => by have := (h y).2 List.mem_cons_self; cases this
  | x :: a, [], _, _, h => by have := (h x).1 List.mem_cons_self; cases this
  | x :: a, y :: b, ha, hb, h => by
    obtain ⟨a1, a2⟩ := List.pairwise_cons.1 ha
    obtain ⟨b1, b2⟩ := List.pairwise_cons.1 hb
    have asym : ∀ {u v : Str}, Op.bytesLess u v = true → Op.bytesLess v u = true → False := fun h k => by
      have := bytesLess_trans h k; rw [bytesLess_irrefl] at this; cases this
    have e : x = y := by
      rcases List.mem_cons.1 ((h x).1 List.mem_cons_self) with e | e
      · exact e
      · rcases List.mem_cons.1 ((h y).2 List.mem_cons_self) with f | f
        · exact f.symm
        · exact (asym (b1 x e) (a1 y f)).elim
    subst e
    rw [srtS_ext a2 b2 fun z => ?_]
    constructor
    · intro hz
      rcases List.mem_cons.1 ((h z).1 (List.mem_cons_of_mem _ hz)) with e | e
      · subst e; have := a1 z hz; rw [bytesLess_irrefl] at this; cases this
      · exact e
    · intro hz
      rcases List.mem_cons.1 ((h z).2 (List.mem_cons_of_mem _ hz)) with e | e
      · subst e; have := b1 z hz; rw [bytesLess_irrefl] at this; cases this
      · exact e
def sortS (l : List Str) : List Str := l.mergeSort fun x y => decide (x ≤ y)
theorem le_less (x y : Str) : decide (x ≤ y) = !Op.bytesLess y x := by
  rw [Go.Proofs.bytesLess_eq]
  by_cases h : y < x
  · simp [h, List.not_le.2 h]
  · simp [h, List.not_lt.1 h]
theorem sortS_mem (l : List Str) (z : Str) : z ∈ sortS l ↔ z ∈ l := (List.mergeSort_perm l _).mem_iff
theorem sortS_len (l : List Str) : (sortS l).length = l.length := List.length_mergeSort l
theorem sortS_pair (l : List Str) : (sortS l).Pairwise fun a b => Op.bytesLess b a = false := by
  have h := List.pairwise_mergeSort (le := fun x y : Str => decide (x ≤ y)) (fun a b c h1 h2 => by
    simp only [decide_eq_true_eq] at *; exact List.le_trans h1 h2) (fun a b => by
    simp only [Bool.or_eq_true, decide_eq_true_eq]; exact List.le_total a b) l
  refine h.imp fun {a b} hab => ?_
  rw [le_less] at hab
  simpa using hab
theorem cmpN_memS {l : List Str} {z : Str} : ∀ {n : Nat}, z ∈ cmpN l n ↔ ∃ i, i < n ∧ l[i]? = some z
  | 0 => by constructor
            · intro h; cases h
            · rintro ⟨i, h, _⟩; omega
  | n + 1 => by
    show z ∈ (if n ≠ 0 ∧ l[n]? = l[n - 1]? then cmpN l n else cmpN l n ++ (l[n]?).toList) ↔ _
    split
    · rename_i h
      rw [cmpN_memS]
      constructor
      · exact fun ⟨i, h1, h2⟩ => ⟨i, by omega, h2⟩
      · intro ⟨i, h1, h2⟩
        by_cases e : i = n
        · subst e; exact ⟨i - 1, by omega, h.2 ▸ h2⟩
        · exact ⟨i, by omega, h2⟩
    · rw [List.mem_append, cmpN_memS, Option.mem_toList]
      constructor
      · rintro (⟨i, h1, h2⟩ | h)
        · exact ⟨i, by omega, h2⟩
        · exact ⟨n, by omega, h⟩
      · intro ⟨i, h1, h2⟩
        by_cases e : i = n
        · subst e; exact .inr h2
        · exact .inl ⟨i, by omega, h2⟩
theorem cmpL_memS (l : List Str) (z : Str) : z ∈ cmpL l ↔ z ∈ l := by
  unfold cmpL
  rw [cmpN_memS]
  constructor
  · exact fun ⟨i, _, h⟩ => List.mem_of_getElem? h
  · intro h
    obtain ⟨i, hi⟩ := List.getElem?_of_mem h
    exact ⟨i, (List.getElem?_eq_some_iff.1 hi).1, hi⟩
theorem pair_get {l : List Str} (hs : l.Pairwise fun a b => Op.bytesLess b a = false) {i j : Nat} {x y : Str} (hij : i < j) (hx : l[i]? = some x) (hy : l[j]? = some y) : Op.bytesLess y x = false := by
  obtain ⟨h1, e1⟩ := List.getElem?_eq_some_iff.1 hx
  obtain ⟨h2, e2⟩ := List.getElem?_eq_some_iff.1 hy
  have := List.pairwise_iff_getElem.1 hs i j h1 h2 hij
  rw [e1, e2] at this; exact this
theorem cmpN_srtS {l : List Str} (hs : l.Pairwise fun a b => Op.bytesLess b a = false) : ∀ {n : Nat}, n ≤ l.length → SrtS (cmpN l n)
  | 0, _ => List.Pairwise.nil
  | n + 1, hn => by
    have ih := cmpN_srtS hs (n := n) (by omega)
    show SrtS (if n ≠ 0 ∧ l[n]? = l[n - 1]? then cmpN l n else cmpN l n ++ (l[n]?).toList)
    split
    · exact ih
    · rename_i h
      obtain ⟨x, hx⟩ := get_some (show n < l.length by omega)
      rw [hx]
      refine List.pairwise_append.2 ⟨ih, List.pairwise_singleton _ _, fun z hz w hw => ?_⟩
      simp at hw; subst hw
      obtain ⟨i, hi, hzi⟩ := cmpN_memS.1 hz
      have h1 := pair_get hs hi hzi hx
      rcases key_cases z w with e | e | e
      · exact e
      · exfalso
        subst e
        apply h
        refine ⟨by omega, ?_⟩
        by_cases f : i = n - 1
        · rw [hx, ← f, hzi]
        · obtain ⟨v, hv⟩ := get_some (show n - 1 < l.length by omega)
          have h3 := pair_get hs (show n - 1 < n by omega) hv hx
          have h4 := pair_get hs (show i < n - 1 by omega) hzi hv
          rw [hx, hv]
          rcases key_cases z v with g | g | g
          · rw [g] at h3; cases h3
          · rw [g]
          · rw [g] at h4; cases h4
      · rw [h1] at e; cases e
def keysI (l : List Str) : List Str := cmpL (sortS l)
theorem keysI_srt (l : List Str) : SrtS (keysI l) := cmpN_srtS (sortS_pair l) (Nat.le_refl _)
theorem keysI_mem (l : List Str) (z : Str) : z ∈ keysI l ↔ z ∈ l := by unfold keysI; rw [cmpL_memS, sortS_mem]
def putS : List Str → Str → List Str
  | [], s => [s]
  | y :: l, s => if Op.bytesLess s y = true then s :: y :: l else if y = s then y :: l else y :: putS l s
theorem putS_srt {s : Str} : ∀ {l : List Str}, SrtS l → SrtS (putS l s) ∧ ∀ z, z ∈ putS l s ↔ z ∈ l ∨ z = s
  | [], _ => ⟨by unfold SrtS putS; simp, fun z => by simp [putS]⟩
  | y :: l, h => by
    obtain ⟨h1, h2⟩ := List.pairwise_cons.1 h
    unfold putS
    split
    · rename_i hs
      refine ⟨List.pairwise_cons.2 ⟨fun z hz => ?_, h⟩, fun z => ?_⟩
      · rcases List.mem_cons.1 hz with rfl | hz
        · exact hs
        · exact bytesLess_trans hs (h1 z hz)
      · rw [List.mem_cons, or_comm]
    · rename_i hs
      split
      · rename_i e
        subst e
        refine ⟨h, fun z => ⟨.inl, ?_⟩⟩
        rintro (hz | rfl)
        · exact hz
        · exact List.mem_cons_self
      · rename_i e
        obtain ⟨i1, i2⟩ := putS_srt (s := s) h2
        have hys : Op.bytesLess y s = true := by
          rcases key_cases y s with g | g | g
          · exact g
          · exact absurd g e
          · exact absurd g hs
        refine ⟨List.pairwise_cons.2 ⟨fun z hz => ?_, i1⟩, fun z => ?_⟩
        · rcases (i2 z).1 hz with hz | rfl
          · exact h1 z hz
          · exact hys
        · rw [List.mem_cons, i2, List.mem_cons, or_assoc]
theorem putS_len (s : Str) : ∀ l : List Str, (putS l s).length ≤ l.length + 1
  | [] => Nat.le_refl _
  | y :: l => by
    have := putS_len s l
    unfold putS
    split
    · exact Nat.le_refl _
    · split
      · exact Nat.le_succ _
      · rw [List.length_cons, List.length_cons]; omega
def putAllS (l : List Str) (o : List Str) : List Str := l.foldl putS o
theorem putAllS_srt : ∀ {l o : List Str}, SrtS o → SrtS (putAllS l o) ∧ ∀ z, z ∈ putAllS l o ↔ z ∈ o ∨ z ∈ l
  | [], o, h => ⟨h, fun z => by simp [putAllS]⟩
  | s :: l, o, h => by
    obtain ⟨h1, h2⟩ := putS_srt (s := s) h
    obtain ⟨i1, i2⟩ := putAllS_srt (l := l) h1
    refine ⟨i1, fun z => ?_⟩
    show z ∈ putAllS l (putS o s) ↔ _
    rw [i2, h2, List.mem_cons, or_assoc]
theorem keys_same (l : List Str) : keysI l = putAllS l [] := by
  obtain ⟨h1, h2⟩ := putAllS_srt (l := l) (o := []) List.Pairwise.nil
  exact srtS_ext (keysI_srt l) h1 fun z => by rw [keysI_mem, h2]; simp
def keysR (r : TRec) : List Str × Bool := if goodRec r = true then (keysI (r.Reads ++ wKeys r.Writes), true) else ([], false)
theorem putS_stop {s : Str} : ∀ {l : List Str} {k : Nat}, SrtS l → k ≤ l.length → (∀ i y, k ≤ i → l[i]? = some y → Op.bytesLess s y = true) → (∀ y, 0 < k → l[k - 1]? = some y → Op.bytesLess s y = false ∧ y ≠ s) → putS l s = l.take k ++ s :: l.drop k
  | [], k, _, hk, _, _ => by have : k = 0 := by simpa using hk
                             subst this; rfl
  | y :: l, 0, _, _, h, _ => by
    unfold putS
    rw [if_pos (h 0 y (Nat.le_refl _) rfl)]; rfl
  | y :: l, k + 1, hs, hk, h, g => by
    obtain ⟨h1, h2⟩ := List.pairwise_cons.1 hs
    have hy : Op.bytesLess s y = false ∧ y ≠ s := by
      cases k with
      | zero => exact g y (by omega) rfl
      | succ k =>
        obtain ⟨z, hz⟩ := get_some (show k < l.length by simp at hk; omega)
        have hgz := g z (by omega) (by simpa using hz)
        have hyz := h1 z (List.mem_of_getElem? hz)
        refine ⟨?_, fun e => ?_⟩
        · cases e : Op.bytesLess s y with
          | false => rfl
          | true => have := bytesLess_trans e hyz; rw [hgz.1] at this; cases this
        · subst e; rw [hyz] at hgz; cases hgz.1
    unfold putS
    rw [if_neg (by rw [hy.1]; decide), if_neg hy.2, putS_stop h2 (by simpa using hk) (fun i z hi hz => h (i + 1) z (by omega) (by simpa using hz)) (fun z hz hz2 => g z (by omega) (by
      cases k with
      | zero => omega
      | succ k => simpa using hz2))]
    rfl
theorem putS_there {s : Str} : ∀ {l : List Str} {k : Nat}, SrtS l → l[k]? = some s → putS l s = l
  | y :: l, 0, hs, h => by
    simp at h; subst h
    unfold putS
    rw [if_neg (by rw [bytesLess_irrefl]; decide), if_pos rfl]
  | y :: l, k + 1, hs, h => by
    obtain ⟨h1, h2⟩ := List.pairwise_cons.1 hs
    have h3 : l[k]? = some s := by simpa using h
    have hy := h1 s (List.mem_of_getElem? h3)
    unfold putS
    rw [if_neg (fun e => by have := bytesLess_trans e hy; rw [bytesLess_irrefl] at this; cases this), if_neg (fun e => by rw [e, bytesLess_irrefl] at hy; cases hy), putS_there h2 h3]
  | [], k, hs, h => by simp at h
theorem putAllS_snoc (l o : List Str) (s : Str) : putAllS (l ++ [s]) o = putS (putAllS l o) s := by
  unfold putAllS; rw [List.foldl_append]; rfl
theorem putAllS_len : ∀ (l o : List Str), (putAllS l o).length ≤ o.length + l.length
  | [], o => Nat.le_refl _
  | s :: l, o => by
    have h1 := putAllS_len l (putS o s)
    have h2 := putS_len s o
    show (putAllS l (putS o s)).length ≤ _
    rw [List.length_cons]; omega
end Go.M

set_option linter.unusedVariables false
set_option linter.unusedSimpArgs false
namespace Go.AV
open Go.Sort

theorem core_row {R : RHeap} {w w' : World} {v : Value} {g : Nat} {t : TypeId} {sz : Nat} {es es' : List (List AV)} {xs : List Value} (hb : v.ownBlock = some g) (hr : RLe R w) (hR : R g = none) (hg : w.grownBy w' (some g))
    (hown : w'.ownsRow 0 t sz v es'.length xs) (hd : DenC R xs es'.flatten) (hsz : ∀ e ∈ es', e.length = sz) :
    Core (blksOf [.arr v t sz es]) w R [.arr v t sz es'] R w' := by
  refine ⟨hg.os, hg.tape, hg.output, hg.size, fun k hk hG => hg.block k hk fun e => hG ⟨_, List.mem_singleton.2 rfl, ?_⟩, fun b o hbo => ?_, fun _ _ => rfl, fun o ho => ?_, fun o ho b e => ?_, ?_⟩
  · injection e with e; subst e; exact hb
  · have h1 := hr b o hbo
    have hlt : b < w.heap.size := (Array.getElem?_eq_some_iff.1 h1).1
    rw [hg.block b hlt fun e => by injection e with e; subst e; rw [hR] at hbo; cases hbo]; exact h1
  · rw [List.mem_singleton.1 ho]
    exact ⟨fun b e => by rw [hb] at e; injection e with e; subst e; exact hR, hsz, xs, hown, hd⟩
  · rw [List.mem_singleton.1 ho] at e
    exact .inr ⟨_, List.mem_singleton.2 rfl, e⟩
  · simp [Own.blk, hb]
theorem core_same {R : RHeap} {w : World} {o : Own} (hr : RLe R w) (ho : Own.ok R w o) : Core (blksOf [o]) w R [o] R w :=
  ⟨rfl, rfl, rfl, Nat.le_refl _, fun _ _ _ => rfl, hr, fun _ _ => rfl, fun q hq => by rw [List.mem_singleton.1 hq]; exact ho, fun q hq b e => .inr ⟨q, hq, e⟩, by
    simp only [List.filterMap_cons, List.filterMap_nil]
    cases Own.blk o <;> simp⟩
theorem denC_is {R : RHeap} {vs ys : List Value} (h : DenC R vs (ys.map AV.is)) : vs = ys := by
  refine List.ext_getElem? fun i => ?_
  have hl := h.1
  rw [List.length_map] at hl
  by_cases hi : i < ys.length
  · have h1 : vs[i]? = some vs[i] := List.getElem?_eq_getElem (by omega)
    have h2 : (ys.map AV.is)[i]? = some (AV.is ys[i]) := by rw [List.getElem?_map, List.getElem?_eq_getElem hi]; rfl
    have h3 := (h.2 i _ _ h1 h2).1
    rw [h1, List.getElem?_eq_getElem hi]
    exact congrArg some h3
  · rw [List.getElem?_eq_none (by omega), List.getElem?_eq_none (by omega)]
theorem denC_mk {R : RHeap} {ys : List Value} (h : ∀ y ∈ ys, y.oneCell' = true) : DenC R ys (ys.map AV.is) := by
  refine ⟨by rw [List.length_map], fun i v x hv hx => ?_⟩
  rw [List.getElem?_map, hv] at hx
  injection hx with hx; subst hx
  exact ⟨rfl, h v (List.mem_of_getElem? hv)⟩
theorem flatone_map {α : Type} (c : α → AV) (l : List α) : (l.map fun n => [c n]).flatten = l.map c := by
  induction l with
  | nil => rfl
  | cons x l ih => simp [ih]
section ordered
variable {P : Program} {f : FuncId} {t : TypeId} {α : Type} [Inhabited α]
theorem row_own1 (enc : α → Value) (h1c : ∀ x, (enc x).oneCell' = true) (srt : List α → List α) (hsl : ∀ l, (srt l).length = l.length)
    (h1 : ∀ (blk off cap : Nat) (zs : List α) (w : World), Holds enc w blk off zs.toArray → blk < w.heap.size → zs.length < 4611686018427387904 →
      Calls P f #[.slice (some ⟨blk, off, none⟩) zs.length cap] w fun e w' => e = .returned (.tuple #[]) ∧ ∃ n os, w' = grow (putRow enc (Sort.ahead w n) blk off (srt zs).toArray) os)
    (h0 : ∀ (p : Option Addr) (cap : Nat) (w : World), Calls P f #[.slice p 0 cap] w fun e w' => e = .returned (.tuple #[]) ∧ w' = w)
    (v : Value) (l : List α) (hl : l.length < 4611686018427387904) :
    GSpec P f [AV.is v] [.arr v t 1 (l.map fun n => [AV.is (enc n)])] (fun _ : Unit => True) (fun _ => [.arr v t 1 ((srt l).map fun n => [AV.is (enc n)])]) (fun _ => AV.tup []) := by
  intro R w vs hr hd hok hnd
  have hvs : vs = [v] := by
    obtain ⟨hlen, hval⟩ := hd
    cases vs with
    | nil => simp at hlen
    | cons a r =>
      cases r with
      | nil => have h9 := hval 0 a (AV.is v) rfl rfl; rw [show a = v from h9]
      | cons b r => simp at hlen
  subst hvs
  have ho := hok _ (List.mem_singleton.2 rfl)
  obtain ⟨hR, hsz, xs, hown, hden⟩ := ho
  have hxs : xs = l.map enc := by
    rw [flatone_map (fun n => AV.is (enc n))] at hden
    have h9 : l.map (fun n => AV.is (enc n)) = (l.map enc).map AV.is := by simp
    rw [h9] at hden
    exact denC_is hden
  rw [List.length_map] at hown
  rcases hown.2 with ⟨hv, hn⟩ | ⟨g, cap, cur, hv, _, hg, hnc, hcm, hcs, htk⟩
  · have hl0 : l = [] := List.length_eq_zero_iff.1 hn
    subst hv; subst hl0
    have hs0 : srt [] = [] := List.length_eq_zero_iff.1 (hsl [])
    refine (h0 none 0 w).mono ?_
    rintro e w' ⟨rfl, rfl⟩
    refine ⟨(), _, R, trivial, rfl, ⟨[], rfl, DenV.nil _⟩, ?_⟩
    rw [hs0]
    exact core_same hr (hok _ (List.mem_singleton.2 rfl))
  · subst hv
    have hgl : g < w.heap.size := (Array.getElem?_eq_some_iff.1 hg).1
    rw [Nat.mul_one] at htk hcs
    have hH : Holds enc w g 0 l.toArray := fun j hj => by
      have hj' : j < l.length := by simpa using hj
      have h9 : cur.toList[j]? = some (enc l[j]) := by
        rw [← List.getElem?_take_of_lt hj', htk, hxs, List.getElem?_map, List.getElem?_eq_getElem hj']; rfl
      refine ⟨?_, by simp [World.frozen?, hg]⟩
      simp only [World.cell?, hg, Nat.zero_add]
      simp only [Option.isSome_none, Bool.false_eq_true, if_false]
      rw [← Array.getElem?_toList, h9]
      simp [hj']
    refine (h1 g 0 cap l w hH hgl hl).mono ?_
    rintro e w' ⟨rfl, n, os, rfl⟩
    refine ⟨(), _, R, trivial, rfl, ⟨[], rfl, DenV.nil _⟩, ?_⟩
    have hgb : w.grownBy (grow (putRow enc (Sort.ahead w n) g 0 (srt l).toArray) os) (some g) := by
      refine ⟨rfl, rfl, rfl, by simp, fun k hk hne => ?_⟩
      rw [heap_grow_old _ _ (by simpa using hk)]
      have h9 : g ≠ k := fun e => hne (by rw [e])
      simp [putRow, mapBlock, Sort.ahead, Array.getElem?_modify, h9]
    have hheap : (grow (putRow enc (Sort.ahead w n) g 0 (srt l).toArray) os).heap[g]? = some (.cells (putCells enc 0 (srt l).toArray cur) t (0, 0)) := by
      rw [heap_grow_old _ _ (by simpa using hgl)]
      simp [putRow, mapBlock, Sort.ahead, Array.getElem?_modify, hg, onCells]
    refine core_row (g := g) (xs := (srt l).map enc) rfl hr (hR g rfl) hgb ?_ ?_ ?_
    · rw [List.length_map, hsl]
      refine ⟨by simp [hsl], .inr ⟨g, cap, _, rfl, Nat.zero_le _, hheap, hnc, hcm, by simp [putCells, hcs], ?_⟩⟩
      apply List.ext_getElem?
      intro j
      by_cases hj : j < l.length
      · rw [List.getElem?_take_of_lt (by omega), Array.getElem?_toList]
        have h8 : j < (srt l).length := by rw [hsl]; exact hj
        simp [putCells, h8, show j < cur.size by omega]
      · rw [List.getElem?_take_eq_none (by omega), List.getElem?_eq_none (by simp [hsl]; omega)]
    · rw [flatone_map (fun n => AV.is (enc n))]
      have h9 : (srt l).map (fun n => AV.is (enc n)) = ((srt l).map enc).map AV.is := by simp
      rw [h9]
      exact denC_mk fun y hy => by obtain ⟨x, _, rfl⟩ := List.mem_map.1 hy; exact h1c x
    · intro e he; obtain ⟨x, _, rfl⟩ := List.mem_map.1 he; rfl
end ordered
end Go.AV

namespace Go.Proofs
open Go.Shelf
set_option linter.unusedVariables false
def Tryz.sortStrs_ren : Go.Shelf.Ren := ⟨fun | 190 => 135 | 125 => 159 | 258 => 158 | 128 => 185 | 129 => 186 | 302 => 176 | 303 => 177 | 304 => 178 | 305 => 179 | 306 => 180 | 307 => 181 | 308 => 182 | 309 => 183 | 310 => 184 | 333 => 201 | 329 => 202 | 330 => 203 | 334 => 204 | 335 => 205 | 336 => 206 | 344 => 215 | n => n, fun | 31 => 34 | 9 => 9 | 3 => 3 | 46 => 124 | 0 => 0 | 51 => 151 | 53 => 59 | 4 => 4 | 183 => 145 | 182 => 144 | 131 => 32 | 5 => 5 | 218 => 165 | 222 => 169 | 228 => 184 | 229 => 185 | n => n, fun | n => n⟩
theorem Tryz.sortStrs : Go.Proofs.Lays.n190 Tryz.prog Tryz.sortStrs_ren := {
  mixed := by kernel_rfl
  f125 := Tryz.func159.trans (congrArg some (by kernel_rfl))
  f128 := Tryz.func185.trans (congrArg some (by kernel_rfl))
  f129 := Tryz.func186.trans (congrArg some (by kernel_rfl))
  f190 := Tryz.func135.trans (congrArg some (by kernel_rfl))
  f258 := Tryz.func158.trans (congrArg some (by kernel_rfl))
  f302 := Tryz.func176.trans (congrArg some (by kernel_rfl))
  f303 := Tryz.func177.trans (congrArg some (by kernel_rfl))
  f304 := Tryz.func178.trans (congrArg some (by kernel_rfl))
  f305 := Tryz.func179.trans (congrArg some (by kernel_rfl))
  f306 := Tryz.func180.trans (congrArg some (by kernel_rfl))
  f307 := Tryz.func181.trans (congrArg some (by kernel_rfl))
  f308 := Tryz.func182.trans (congrArg some (by kernel_rfl))
  f309 := Tryz.func183.trans (congrArg some (by kernel_rfl))
  f310 := Tryz.func184.trans (congrArg some (by kernel_rfl))
  f329 := Tryz.func202.trans (congrArg some (by kernel_rfl))
  f330 := Tryz.func203.trans (congrArg some (by kernel_rfl))
  f333 := Tryz.func201.trans (congrArg some (by kernel_rfl))
  f334 := Tryz.func204.trans (congrArg some (by kernel_rfl))
  f335 := Tryz.func205.trans (congrArg some (by kernel_rfl))
  f336 := Tryz.func206.trans (congrArg some (by kernel_rfl))
  f344 := Tryz.func215.trans (congrArg some (by kernel_rfl))
  t0 := Tryz.underlying0
  a0 := Tryz.isAgg0
  z0 := Tryz.sizeOf0
  v0 := Tryz.zeroValue0
  t3 := Tryz.underlying3
  a3 := Tryz.isAgg3
  z3 := Tryz.sizeOf3
  v3 := Tryz.zeroValue3
  t4 := Tryz.underlying4
  a4 := Tryz.isAgg4
  z4 := Tryz.sizeOf4
  v4 := Tryz.zeroValue4
  t5 := Tryz.underlying5
  a5 := Tryz.isAgg5
  z5 := Tryz.sizeOf5
  v5 := Tryz.zeroValue5
  t9 := Tryz.underlying9
  a9 := Tryz.isAgg9
  z9 := Tryz.sizeOf9
  v9 := Tryz.zeroValue9
  t31 := Tryz.underlying34
  a31 := Tryz.isAgg34
  z31 := Tryz.sizeOf34
  v31 := Tryz.zeroValue34
  t46 := Tryz.underlying124
  a46 := Tryz.isAgg124
  z46 := Tryz.sizeOf124
  v46 := Tryz.zeroValue124
  t51 := Tryz.underlying151
  a51 := Tryz.isAgg151
  z51 := Tryz.sizeOf151
  v51 := Tryz.zeroValue151
  t53 := Tryz.underlying59
  a53 := Tryz.isAgg59
  z53 := Tryz.sizeOf59
  v53 := Tryz.zeroValue59
  t131 := Tryz.underlying32
  a131 := Tryz.isAgg32
  z131 := Tryz.sizeOf32
  v131 := Tryz.zeroValue32
  t182 := Tryz.underlying144
  a182 := Tryz.isAgg144
  z182 := Tryz.sizeOf144
  v182 := Tryz.zeroValue144
  t183 := Tryz.underlying145
  a183 := Tryz.isAgg145
  z183 := Tryz.sizeOf145
  v183 := Tryz.zeroValue145
  t218 := Tryz.underlying165
  a218 := Tryz.isAgg165
  z218 := Tryz.sizeOf165
  v218 := Tryz.zeroValue165
  t222 := Tryz.underlying169
  a222 := Tryz.isAgg169
  z222 := Tryz.sizeOf169
  v222 := Tryz.zeroValue169
  t228 := Tryz.underlying184
  a228 := Tryz.isAgg184
  z228 := Tryz.sizeOf184
  v228 := Tryz.zeroValue184
  t229 := Tryz.underlying185
  a229 := Tryz.isAgg185
  z229 := Tryz.sizeOf185
  v229 := Tryz.zeroValue185 }
end Go.Proofs

set_option linter.unusedVariables false
set_option linter.unusedSimpArgs false
set_option maxRecDepth 100000
set_option maxHeartbeats 1000000
namespace Go.Proofs.YtmlmmgeadombbaaGreatDoor
open Go Go.AV Go.M
attribute [local irreducible] OpW OpA OpS AWP FSpec ESpec GSpec OpE RetOk RetOkG RvDen Le Ev GuardIs SrcIs Int.tmod Int.tdiv IntKind.wrap
theorem write_beq (x y : TWrite) : (x.Key == y.Key && (x.Val == y.Val && (x.Gone == y.Gone && true))) = decide (x = y) := by
  cases x; cases y
  rw [Bool.eq_iff_iff]
  simp
theorem equalStr_spec (a b : List Str) : FSpec Tryz.prog 74 [strs a, strs b] (AV.bool (decide (a = b))) := by
  refine spec_of_awp Tryz.func74 rfl Tryz.ntmps74 rfl ?_
  refine awp_len (t := 0) rfl fun hl => ?_
  try simp only [List.length_map] at hl
  refine awp_len (t := 1) rfl fun hl2 => ?_
  try simp only [List.length_map] at hl2
  refine awp_seq ?_
  refine awp_region ?_
  refine sq_plain rfl rfl rfl (w_assign rfl ev_cb) ?_
  refine sq_nil ?_
  refine awp_seq ?_
  refine awp_seq ?_
  refine awp_region ?_
  refine sq_plain rfl rfl rfl (w_move rfl (ev_tmp rfl)) ?_
  refine sq_plain rfl rfl rfl (w_llen rfl Tryz.underlying34 (ev_tmp rfl)) ?_
  refine sq_plain rfl rfl rfl (w_move rfl (ev_tmp rfl)) ?_
  refine sq_plain rfl rfl rfl (w_llen rfl Tryz.underlying34 (ev_tmp rfl)) ?_
  refine sq_plain rfl rfl rfl (w_neq rfl (ev_tmp rfl) (ev_tmp rfl)) ?_
  refine sq_nil ?_
  refine awp_cond (ev_tmp rfl) ?_ ?_
  · intro h10
    have k10 := ne_of_bne h10; try simp only [List.length_map] at k10
    have hne : decide (a = b) = false := decide_eq_false fun e => by (subst e; omega)
    rw [hne]
    refine awp_seq ?_
    refine awp_region ?_
    refine sq_plain rfl rfl rfl (w_assign rfl ev_cb) ?_
    refine sq_nil ?_
    refine awp_ret ?_
    exact retR rfl (rv_tmp' rfl (by rfl))
  · intro h10
    have k10 := eq_of_bne_false h10; try simp only [List.length_map] at k10
    refine awp_skip ?_
    refine awp_seq ?_
    refine awp_seq ?_
    refine awp_region ?_
    refine sq_plain rfl rfl rfl (w_move rfl (ev_tmp rfl)) ?_
    refine sq_plain rfl rfl rfl (w_llen rfl Tryz.underlying34 (ev_tmp rfl)) ?_
    refine sq_plain rfl rfl rfl (w_move rfl ev_ci) ?_
    refine sq_nil ?_
    refine awp_block ?_
    refine awp_loop_i [(0, _), (1, _), (12, _)] _ (fun (i : Nat) => i ≤ a.length ∧ a.take i = b.take i) (fun (i : Nat) => []) (fun (i : Nat) => [(13, AV.int i)]) (fun (i : Nat) => a.length - i) (0) ?_ (le_env ⟨rfl, rfl, rfl, rfl, trivial⟩) ?_
    · exact ⟨Nat.zero_le _, rfl⟩
    intro i hinv
    refine awp_seq ?_
    refine awp_region ?_
    refine sq_plain rfl rfl rfl (w_lss rfl (ev_tmp rfl) (ev_tmp rfl)) ?_
    refine sq_nil ?_
    refine awp_seq ?_
    refine awp_cond (ev_tmp rfl) ?_ ?_
    · intro h14
      have k14 := of_decide_eq_true h14; try simp only [List.length_map] at k14
      have hlt : i < a.length := by omega
      obtain ⟨x, hx⟩ := get_some hlt
      obtain ⟨y, hy⟩ := get_some (show i < b.length by omega)
      refine awp_skip ?_
      refine awp_seq ?_
      refine awp_block ?_
      refine awp_seq ?_
      refine awp_region ?_
      refine sq_plain rfl rfl rfl (w_move rfl (ev_tmp rfl)) ?_
      refine sq_plain rfl rfl rfl (w_assign rfl (ev_tmp rfl)) ?_
      refine sq_nil ?_
      refine awp_seq ?_
      refine awp_region_any (by kernel_rfl) (by kernel_rfl) rfl ?_
      refine ch_plain rfl rfl (w_move rfl (ev_tmp rfl)) ?_
      refine ch_plain rfl rfl (w_move rfl (ev_tmp rfl)) ?_
      refine ch_plain rfl rfl (w_idxm rfl Tryz.underlying34 Tryz.sizeOf9 (ev_tmp rfl) (ev_tmp rfl) hx (by first | omega | ((try simp only [List.length_map, List.length_take, List.length_cons, List.length_nil, chunks_len, szR] at *); omega) | (have hc2 := hc; simp only [Bool.and_eq_true, Bool.or_eq_true, Bool.or_eq_false_iff, Bool.and_eq_false_iff, Bool.not_eq_true', Bool.not_eq_false', decide_eq_true_eq, decide_eq_false_iff_not, beq_iff_eq, bne_iff_ne, List.length_map, List.length_take] at hc2; omega))) ?_
      refine ch_plain rfl rfl (w_loadE1 rfl (ev_tmp rfl) Tryz.isAgg9 rfl) ?_
      refine ch_plain rfl rfl (w_move rfl (ev_tmp rfl)) ?_
      refine ch_plain rfl rfl (w_move rfl (ev_tmp rfl)) ?_
      refine ch_plain rfl rfl (w_idxm rfl Tryz.underlying34 Tryz.sizeOf9 (ev_tmp rfl) (ev_tmp rfl) hy (by first | omega | ((try simp only [List.length_map, List.length_take, List.length_cons, List.length_nil, chunks_len, szR] at *); omega) | (have hc2 := hc; simp only [Bool.and_eq_true, Bool.or_eq_true, Bool.or_eq_false_iff, Bool.and_eq_false_iff, Bool.not_eq_true', Bool.not_eq_false', decide_eq_true_eq, decide_eq_false_iff_not, beq_iff_eq, bne_iff_ne, List.length_map, List.length_take] at hc2; omega))) ?_
      refine ch_plain rfl rfl (w_loadE1 rfl (ev_tmp rfl) Tryz.isAgg9 rfl) ?_
      refine ch_plain rfl rfl (w_sneq rfl (ev_tmp rfl) (ev_tmp rfl)) ?_
      refine ch_nil ?_
      refine awp_cond (ev_tmp rfl) ?_ ?_
      · intro h24
        have hne : decide (a = b) = false := decide_eq_false fun e => by (subst e; rw [hx] at hy; injection hy with hy; simp [hy] at h24)
        rw [hne]
        refine awp_seq ?_
        refine awp_region ?_
        refine sq_plain rfl rfl rfl (w_assign rfl ev_cb) ?_
        refine sq_nil ?_
        refine awp_ret ?_
        exact retR rfl (rv_tmp' rfl (by rfl))
      · intro h24
        refine awp_skip ?_
        refine awp_region ?_
        refine sq_plain rfl rfl rfl (w_addi rfl (ev_tmp rfl) ev_ci (by first | omega | ((try simp only [List.length_map, List.length_take, List.length_cons, List.length_nil, chunks_len, szR] at *); omega) | (have hc2 := hc; simp only [Bool.and_eq_true, Bool.or_eq_true, Bool.or_eq_false_iff, Bool.and_eq_false_iff, Bool.not_eq_true', Bool.not_eq_false', decide_eq_true_eq, decide_eq_false_iff_not, beq_iff_eq, bne_iff_ne, List.length_map, List.length_take] at hc2; omega))) ?_
        refine sq_plain rfl rfl rfl (w_move rfl (ev_tmp rfl)) ?_
        refine sq_nil ?_
        refine round_end i (i + 1) ?_ ?_ (le_env ⟨rfl, rfl, rfl, rfl, trivial⟩)
        · exact ⟨by omega, by rw [List.take_add_one, List.take_add_one, hinv.2, hx, hy]; congr 2; simpa using h24⟩
        · omega
    · intro h14
      have k14 := of_decide_eq_false h14; try simp only [List.length_map] at k14
      have hyes : decide (a = b) = true := decide_eq_true (by have h9 := hinv.2; rw [List.take_of_length_le (by omega), List.take_of_length_le (by omega)] at h9; exact h9)
      rw [hyes]
      refine awp_exit ?_
      refine awp_seq ?_
      refine awp_region ?_
      refine sq_plain rfl rfl rfl (w_assign rfl ev_cb) ?_
      refine sq_nil ?_
      refine awp_ret ?_
      exact retR rfl (rv_tmp' rfl (by rfl))
theorem sameS4_spec (a b : List Str) : FSpec Tryz.prog 72 [strs a, strs b] (AV.bool (decide (a = b))) := by
  refine spec_of_awp Tryz.func72 rfl Tryz.ntmps72 rfl ?_
  refine awp_len (t := 0) rfl fun hl => ?_
  try simp only [List.length_map] at hl
  refine awp_len (t := 1) rfl fun hl2 => ?_
  try simp only [List.length_map] at hl2
  refine awp_seq ?_
  refine awp_region ?_
  refine sq_plain rfl rfl rfl (w_assign rfl ev_cb) ?_
  refine sq_nil ?_
  refine awp_seq ?_
  refine awp_seq ?_
  refine awp_region ?_
  refine sq_plain rfl rfl rfl (w_move rfl (ev_tmp rfl)) ?_
  refine sq_plain rfl rfl rfl (w_llen rfl Tryz.underlying34 (ev_tmp rfl)) ?_
  refine sq_plain rfl rfl rfl (w_move rfl (ev_tmp rfl)) ?_
  refine sq_plain rfl rfl rfl (w_llen rfl Tryz.underlying34 (ev_tmp rfl)) ?_
  refine sq_plain rfl rfl rfl (w_neq rfl (ev_tmp rfl) (ev_tmp rfl)) ?_
  refine sq_nil ?_
  refine awp_cond (ev_tmp rfl) ?_ ?_
  · intro h10
    have k10 := ne_of_bne h10; try simp only [List.length_map] at k10
    have hne : decide (a = b) = false := decide_eq_false fun e => by (subst e; omega)
    rw [hne]
    refine awp_seq ?_
    refine awp_region ?_
    refine sq_plain rfl rfl rfl (w_assign rfl ev_cb) ?_
    refine sq_nil ?_
    refine awp_ret ?_
    exact retR rfl (rv_tmp' rfl (by rfl))
  · intro h10
    have k10 := eq_of_bne_false h10; try simp only [List.length_map] at k10
    refine awp_skip ?_
    refine awp_seq ?_
    refine awp_seq ?_
    refine awp_region ?_
    refine sq_plain rfl rfl rfl (w_move rfl (ev_tmp rfl)) ?_
    refine sq_plain rfl rfl rfl (w_llen rfl Tryz.underlying34 (ev_tmp rfl)) ?_
    refine sq_plain rfl rfl rfl (w_move rfl ev_ci) ?_
    refine sq_nil ?_
    refine awp_block ?_
    refine awp_loop_i [(0, _), (1, _), (12, _)] _ (fun (i : Nat) => i ≤ a.length ∧ a.take i = b.take i) (fun (i : Nat) => []) (fun (i : Nat) => [(13, AV.int i)]) (fun (i : Nat) => a.length - i) (0) ?_ (le_env ⟨rfl, rfl, rfl, rfl, trivial⟩) ?_
    · exact ⟨Nat.zero_le _, rfl⟩
    intro i hinv
    refine awp_seq ?_
    refine awp_region ?_
    refine sq_plain rfl rfl rfl (w_lss rfl (ev_tmp rfl) (ev_tmp rfl)) ?_
    refine sq_nil ?_
    refine awp_seq ?_
    refine awp_cond (ev_tmp rfl) ?_ ?_
    · intro h14
      have k14 := of_decide_eq_true h14; try simp only [List.length_map] at k14
      have hlt : i < a.length := by omega
      obtain ⟨x, hx⟩ := get_some hlt
      obtain ⟨y, hy⟩ := get_some (show i < b.length by omega)
      refine awp_skip ?_
      refine awp_seq ?_
      refine awp_block ?_
      refine awp_seq ?_
      refine awp_region ?_
      refine sq_plain rfl rfl rfl (w_move rfl (ev_tmp rfl)) ?_
      refine sq_plain rfl rfl rfl (w_assign rfl (ev_tmp rfl)) ?_
      refine sq_nil ?_
      refine awp_seq ?_
      refine awp_region_any (by kernel_rfl) (by kernel_rfl) rfl ?_
      refine ch_plain rfl rfl (w_move rfl (ev_tmp rfl)) ?_
      refine ch_plain rfl rfl (w_move rfl (ev_tmp rfl)) ?_
      refine ch_plain rfl rfl (w_idxm rfl Tryz.underlying34 Tryz.sizeOf9 (ev_tmp rfl) (ev_tmp rfl) hx (by first | omega | ((try simp only [List.length_map, List.length_take, List.length_cons, List.length_nil, chunks_len, szR] at *); omega) | (have hc2 := hc; simp only [Bool.and_eq_true, Bool.or_eq_true, Bool.or_eq_false_iff, Bool.and_eq_false_iff, Bool.not_eq_true', Bool.not_eq_false', decide_eq_true_eq, decide_eq_false_iff_not, beq_iff_eq, bne_iff_ne, List.length_map, List.length_take] at hc2; omega))) ?_
      refine ch_plain rfl rfl (w_loadE1 rfl (ev_tmp rfl) Tryz.isAgg9 rfl) ?_
      refine ch_plain rfl rfl (w_move rfl (ev_tmp rfl)) ?_
      refine ch_plain rfl rfl (w_move rfl (ev_tmp rfl)) ?_
      refine ch_plain rfl rfl (w_idxm rfl Tryz.underlying34 Tryz.sizeOf9 (ev_tmp rfl) (ev_tmp rfl) hy (by first | omega | ((try simp only [List.length_map, List.length_take, List.length_cons, List.length_nil, chunks_len, szR] at *); omega) | (have hc2 := hc; simp only [Bool.and_eq_true, Bool.or_eq_true, Bool.or_eq_false_iff, Bool.and_eq_false_iff, Bool.not_eq_true', Bool.not_eq_false', decide_eq_true_eq, decide_eq_false_iff_not, beq_iff_eq, bne_iff_ne, List.length_map, List.length_take] at hc2; omega))) ?_
      refine ch_plain rfl rfl (w_loadE1 rfl (ev_tmp rfl) Tryz.isAgg9 rfl) ?_
      refine ch_plain rfl rfl (w_sneq rfl (ev_tmp rfl) (ev_tmp rfl)) ?_
      refine ch_nil ?_
      refine awp_cond (ev_tmp rfl) ?_ ?_
      · intro h24
        have hne : decide (a = b) = false := decide_eq_false fun e => by (subst e; rw [hx] at hy; injection hy with hy; simp [hy] at h24)
        rw [hne]
        refine awp_seq ?_
        refine awp_region ?_
        refine sq_plain rfl rfl rfl (w_assign rfl ev_cb) ?_
        refine sq_nil ?_
        refine awp_ret ?_
        exact retR rfl (rv_tmp' rfl (by rfl))
      · intro h24
        refine awp_skip ?_
        refine awp_region ?_
        refine sq_plain rfl rfl rfl (w_addi rfl (ev_tmp rfl) ev_ci (by first | omega | ((try simp only [List.length_map, List.length_take, List.length_cons, List.length_nil, chunks_len, szR] at *); omega) | (have hc2 := hc; simp only [Bool.and_eq_true, Bool.or_eq_true, Bool.or_eq_false_iff, Bool.and_eq_false_iff, Bool.not_eq_true', Bool.not_eq_false', decide_eq_true_eq, decide_eq_false_iff_not, beq_iff_eq, bne_iff_ne, List.length_map, List.length_take] at hc2; omega))) ?_
        refine sq_plain rfl rfl rfl (w_move rfl (ev_tmp rfl)) ?_
        refine sq_nil ?_
        refine round_end i (i + 1) ?_ ?_ (le_env ⟨rfl, rfl, rfl, rfl, trivial⟩)
        · exact ⟨by omega, by rw [List.take_add_one, List.take_add_one, hinv.2, hx, hy]; congr 2; simpa using h24⟩
        · omega
    · intro h14
      have k14 := of_decide_eq_false h14; try simp only [List.length_map] at k14
      have hyes : decide (a = b) = true := decide_eq_true (by have h9 := hinv.2; rw [List.take_of_length_le (by omega), List.take_of_length_le (by omega)] at h9; exact h9)
      rw [hyes]
      refine awp_exit ?_
      refine awp_seq ?_
      refine awp_region ?_
      refine sq_plain rfl rfl rfl (w_assign rfl ev_cb) ?_
      refine sq_nil ?_
      refine awp_ret ?_
      exact retR rfl (rv_tmp' rfl (by rfl))
theorem equalW_spec (a b : List TWrite) : FSpec Tryz.prog 75 [AV.list 3 (a.map TWrite.cs), AV.list 3 (b.map TWrite.cs)] (AV.bool (decide (a = b))) := by
  refine spec_of_awp Tryz.func75 rfl Tryz.ntmps75 rfl ?_
  refine awp_len (t := 0) rfl fun hl => ?_
  try simp only [List.length_map] at hl
  refine awp_len (t := 1) rfl fun hl2 => ?_
  try simp only [List.length_map] at hl2
  refine awp_seq ?_
  refine awp_region ?_
  refine sq_plain rfl rfl rfl (w_assign rfl ev_cb) ?_
  refine sq_nil ?_
  refine awp_seq ?_
  refine awp_seq ?_
  refine awp_region ?_
  refine sq_plain rfl rfl rfl (w_move rfl (ev_tmp rfl)) ?_
  refine sq_plain rfl rfl rfl (w_llen rfl Tryz.underlying35 (ev_tmp rfl)) ?_
  refine sq_plain rfl rfl rfl (w_move rfl (ev_tmp rfl)) ?_
  refine sq_plain rfl rfl rfl (w_llen rfl Tryz.underlying35 (ev_tmp rfl)) ?_
  refine sq_plain rfl rfl rfl (w_neq rfl (ev_tmp rfl) (ev_tmp rfl)) ?_
  refine sq_nil ?_
  refine awp_cond (ev_tmp rfl) ?_ ?_
  · intro h10
    have k10 := ne_of_bne h10; try simp only [List.length_map] at k10
    have hne : decide (a = b) = false := decide_eq_false fun e => by (subst e; omega)
    rw [hne]
    refine awp_seq ?_
    refine awp_region ?_
    refine sq_plain rfl rfl rfl (w_assign rfl ev_cb) ?_
    refine sq_nil ?_
    refine awp_ret ?_
    exact retR rfl (rv_tmp' rfl (by rfl))
  · intro h10
    have k10 := eq_of_bne_false h10; try simp only [List.length_map] at k10
    refine awp_skip ?_
    refine awp_seq ?_
    refine awp_seq ?_
    refine awp_region ?_
    refine sq_plain rfl rfl rfl (w_move rfl (ev_tmp rfl)) ?_
    refine sq_plain rfl rfl rfl (w_llen rfl Tryz.underlying35 (ev_tmp rfl)) ?_
    refine sq_plain rfl rfl rfl (w_move rfl ev_ci) ?_
    refine sq_nil ?_
    refine awp_block ?_
    refine awp_loop_i [(0, _), (1, _), (12, _)] _ (fun (i : Nat) => i ≤ a.length ∧ a.take i = b.take i) (fun (i : Nat) => []) (fun (i : Nat) => [(13, AV.int i)]) (fun (i : Nat) => a.length - i) (0) ?_ (le_env ⟨rfl, rfl, rfl, rfl, trivial⟩) ?_
    · exact ⟨Nat.zero_le _, rfl⟩
    intro i hinv
    refine awp_seq ?_
    refine awp_region ?_
    refine sq_plain rfl rfl rfl (w_lss rfl (ev_tmp rfl) (ev_tmp rfl)) ?_
    refine sq_nil ?_
    refine awp_seq ?_
    refine awp_cond (ev_tmp rfl) ?_ ?_
    · intro h14
      have k14 := of_decide_eq_true h14; try simp only [List.length_map] at k14
      have hlt : i < a.length := by omega
      obtain ⟨x, hx⟩ := get_some hlt
      obtain ⟨y, hy⟩ := get_some (show i < b.length by omega)
      refine awp_skip ?_
      refine awp_seq ?_
      refine awp_block ?_
      refine awp_seq ?_
      refine awp_region ?_
      refine sq_plain rfl rfl rfl (w_move rfl (ev_tmp rfl)) ?_
      refine sq_plain rfl rfl rfl (w_assign rfl (ev_tmp rfl)) ?_
      refine sq_nil ?_
      refine awp_seq ?_
      refine awp_region_any (by kernel_rfl) (by kernel_rfl) rfl ?_
      refine ch_plain rfl rfl (w_move rfl (ev_tmp rfl)) ?_
      refine ch_plain rfl rfl (w_move rfl (ev_tmp rfl)) ?_
      refine ch_plain rfl rfl (w_idxm rfl Tryz.underlying35 Tryz.sizeOf79 (ev_tmp rfl) (ev_tmp rfl) hx (by first | omega | ((try simp only [List.length_map, List.length_take, List.length_cons, List.length_nil, chunks_len, szR] at *); omega) | (have hc2 := hc; simp only [Bool.and_eq_true, Bool.or_eq_true, Bool.or_eq_false_iff, Bool.and_eq_false_iff, Bool.not_eq_true', Bool.not_eq_false', decide_eq_true_eq, decide_eq_false_iff_not, beq_iff_eq, bne_iff_ne, List.length_map, List.length_take] at hc2; omega))) ?_
      refine ch_plain rfl rfl (w_loadE rfl (ev_tmp rfl) Tryz.isAgg79 Tryz.sizeOf79) ?_
      refine ch_plain rfl rfl (w_move rfl (ev_tmp rfl)) ?_
      refine ch_plain rfl rfl (w_move rfl (ev_tmp rfl)) ?_
      refine ch_plain rfl rfl (w_idxm rfl Tryz.underlying35 Tryz.sizeOf79 (ev_tmp rfl) (ev_tmp rfl) hy (by first | omega | ((try simp only [List.length_map, List.length_take, List.length_cons, List.length_nil, chunks_len, szR] at *); omega) | (have hc2 := hc; simp only [Bool.and_eq_true, Bool.or_eq_true, Bool.or_eq_false_iff, Bool.and_eq_false_iff, Bool.not_eq_true', Bool.not_eq_false', decide_eq_true_eq, decide_eq_false_iff_not, beq_iff_eq, bne_iff_ne, List.length_map, List.length_take] at hc2; omega))) ?_
      refine ch_plain rfl rfl (w_loadE rfl (ev_tmp rfl) Tryz.isAgg79 Tryz.sizeOf79) ?_
      refine ch_plain rfl rfl (w_aneq rfl Tryz.underlying79 (by kernel_rfl) (by kernel_rfl) (ev_tmp rfl) (ev_tmp rfl) (eqf_cons (by kernel_rfl) Tryz.isAgg9 rfl rfl (eqf_str Tryz.underlying9) (eqf_cons (by kernel_rfl) Tryz.isAgg9 rfl rfl (eqf_str Tryz.underlying9) (eqf_cons (by kernel_rfl) Tryz.isAgg4 rfl rfl (eqf_bool Tryz.underlying4) eqf_nil)))) ?_
      refine ch_nil ?_
      refine awp_cond (ev_tmp rfl) ?_ ?_
      · intro h24
        have hne : decide (a = b) = false := decide_eq_false fun e => by (subst e; rw [hx] at hy; injection hy with hy; rw [write_beq] at h24; simp [hy] at h24)
        rw [hne]
        refine awp_seq ?_
        refine awp_region ?_
        refine sq_plain rfl rfl rfl (w_assign rfl ev_cb) ?_
        refine sq_nil ?_
        refine awp_ret ?_
        exact retR rfl (rv_tmp' rfl (by rfl))
      · intro h24
        refine awp_skip ?_
        refine awp_region ?_
        refine sq_plain rfl rfl rfl (w_addi rfl (ev_tmp rfl) ev_ci (by first | omega | ((try simp only [List.length_map, List.length_take, List.length_cons, List.length_nil, chunks_len, szR] at *); omega) | (have hc2 := hc; simp only [Bool.and_eq_true, Bool.or_eq_true, Bool.or_eq_false_iff, Bool.and_eq_false_iff, Bool.not_eq_true', Bool.not_eq_false', decide_eq_true_eq, decide_eq_false_iff_not, beq_iff_eq, bne_iff_ne, List.length_map, List.length_take] at hc2; omega))) ?_
        refine sq_plain rfl rfl rfl (w_move rfl (ev_tmp rfl)) ?_
        refine sq_nil ?_
        refine round_end i (i + 1) ?_ ?_ (le_env ⟨rfl, rfl, rfl, rfl, trivial⟩)
        · exact ⟨by omega, by rw [List.take_add_one, List.take_add_one, hinv.2, hx, hy]; congr 2; rw [write_beq] at h24; simpa using h24⟩
        · omega
    · intro h14
      have k14 := of_decide_eq_false h14; try simp only [List.length_map] at k14
      have hyes : decide (a = b) = true := decide_eq_true (by have h9 := hinv.2; rw [List.take_of_length_le (by omega), List.take_of_length_le (by omega)] at h9; exact h9)
      rw [hyes]
      refine awp_exit ?_
      refine awp_seq ?_
      refine awp_region ?_
      refine sq_plain rfl rfl rfl (w_assign rfl ev_cb) ?_
      refine sq_nil ?_
      refine awp_ret ?_
      exact retR rfl (rv_tmp' rfl (by rfl))
theorem sameW4_spec (a b : List TWrite) : FSpec Tryz.prog 73 [AV.list 3 (a.map TWrite.cs), AV.list 3 (b.map TWrite.cs)] (AV.bool (decide (a = b))) := by
  refine spec_of_awp Tryz.func73 rfl Tryz.ntmps73 rfl ?_
  refine awp_len (t := 0) rfl fun hl => ?_
  try simp only [List.length_map] at hl
  refine awp_len (t := 1) rfl fun hl2 => ?_
  try simp only [List.length_map] at hl2
  refine awp_seq ?_
  refine awp_region ?_
  refine sq_plain rfl rfl rfl (w_assign rfl ev_cb) ?_
  refine sq_nil ?_
  refine awp_seq ?_
  refine awp_seq ?_
  refine awp_region ?_
  refine sq_plain rfl rfl rfl (w_move rfl (ev_tmp rfl)) ?_
  refine sq_plain rfl rfl rfl (w_llen rfl Tryz.underlying35 (ev_tmp rfl)) ?_
  refine sq_plain rfl rfl rfl (w_move rfl (ev_tmp rfl)) ?_
  refine sq_plain rfl rfl rfl (w_llen rfl Tryz.underlying35 (ev_tmp rfl)) ?_
  refine sq_plain rfl rfl rfl (w_neq rfl (ev_tmp rfl) (ev_tmp rfl)) ?_
  refine sq_nil ?_
  refine awp_cond (ev_tmp rfl) ?_ ?_
  · intro h10
    have k10 := ne_of_bne h10; try simp only [List.length_map] at k10
    have hne : decide (a = b) = false := decide_eq_false fun e => by (subst e; omega)
    rw [hne]
    refine awp_seq ?_
    refine awp_region ?_
    refine sq_plain rfl rfl rfl (w_assign rfl ev_cb) ?_
    refine sq_nil ?_
    refine awp_ret ?_
    exact retR rfl (rv_tmp' rfl (by rfl))
  · intro h10
    have k10 := eq_of_bne_false h10; try simp only [List.length_map] at k10
    refine awp_skip ?_
    refine awp_seq ?_
    refine awp_seq ?_
    refine awp_region ?_
    refine sq_plain rfl rfl rfl (w_move rfl (ev_tmp rfl)) ?_
    refine sq_plain rfl rfl rfl (w_llen rfl Tryz.underlying35 (ev_tmp rfl)) ?_
    refine sq_plain rfl rfl rfl (w_move rfl ev_ci) ?_
    refine sq_nil ?_
    refine awp_block ?_
    refine awp_loop_i [(0, _), (1, _), (12, _)] _ (fun (i : Nat) => i ≤ a.length ∧ a.take i = b.take i) (fun (i : Nat) => []) (fun (i : Nat) => [(13, AV.int i)]) (fun (i : Nat) => a.length - i) (0) ?_ (le_env ⟨rfl, rfl, rfl, rfl, trivial⟩) ?_
    · exact ⟨Nat.zero_le _, rfl⟩
    intro i hinv
    refine awp_seq ?_
    refine awp_region ?_
    refine sq_plain rfl rfl rfl (w_lss rfl (ev_tmp rfl) (ev_tmp rfl)) ?_
    refine sq_nil ?_
    refine awp_seq ?_
    refine awp_cond (ev_tmp rfl) ?_ ?_
    · intro h14
      have k14 := of_decide_eq_true h14; try simp only [List.length_map] at k14
      have hlt : i < a.length := by omega
      obtain ⟨x, hx⟩ := get_some hlt
      obtain ⟨y, hy⟩ := get_some (show i < b.length by omega)
      refine awp_skip ?_
      refine awp_seq ?_
      refine awp_block ?_
      refine awp_seq ?_
      refine awp_region ?_
      refine sq_plain rfl rfl rfl (w_move rfl (ev_tmp rfl)) ?_
      refine sq_plain rfl rfl rfl (w_assign rfl (ev_tmp rfl)) ?_
      refine sq_nil ?_
      refine awp_seq ?_
      refine awp_region_any (by kernel_rfl) (by kernel_rfl) rfl ?_
      refine ch_plain rfl rfl (w_move rfl (ev_tmp rfl)) ?_
      refine ch_plain rfl rfl (w_move rfl (ev_tmp rfl)) ?_
      refine ch_plain rfl rfl (w_idxm rfl Tryz.underlying35 Tryz.sizeOf79 (ev_tmp rfl) (ev_tmp rfl) hx (by first | omega | ((try simp only [List.length_map, List.length_take, List.length_cons, List.length_nil, chunks_len, szR] at *); omega) | (have hc2 := hc; simp only [Bool.and_eq_true, Bool.or_eq_true, Bool.or_eq_false_iff, Bool.and_eq_false_iff, Bool.not_eq_true', Bool.not_eq_false', decide_eq_true_eq, decide_eq_false_iff_not, beq_iff_eq, bne_iff_ne, List.length_map, List.length_take] at hc2; omega))) ?_
      refine ch_plain rfl rfl (w_loadE rfl (ev_tmp rfl) Tryz.isAgg79 Tryz.sizeOf79) ?_
      refine ch_plain rfl rfl (w_move rfl (ev_tmp rfl)) ?_
      refine ch_plain rfl rfl (w_move rfl (ev_tmp rfl)) ?_
      refine ch_plain rfl rfl (w_idxm rfl Tryz.underlying35 Tryz.sizeOf79 (ev_tmp rfl) (ev_tmp rfl) hy (by first | omega | ((try simp only [List.length_map, List.length_take, List.length_cons, List.length_nil, chunks_len, szR] at *); omega) | (have hc2 := hc; simp only [Bool.and_eq_true, Bool.or_eq_true, Bool.or_eq_false_iff, Bool.and_eq_false_iff, Bool.not_eq_true', Bool.not_eq_false', decide_eq_true_eq, decide_eq_false_iff_not, beq_iff_eq, bne_iff_ne, List.length_map, List.length_take] at hc2; omega))) ?_
      refine ch_plain rfl rfl (w_loadE rfl (ev_tmp rfl) Tryz.isAgg79 Tryz.sizeOf79) ?_
      refine ch_plain rfl rfl (w_aneq rfl Tryz.underlying79 (by kernel_rfl) (by kernel_rfl) (ev_tmp rfl) (ev_tmp rfl) (eqf_cons (by kernel_rfl) Tryz.isAgg9 rfl rfl (eqf_str Tryz.underlying9) (eqf_cons (by kernel_rfl) Tryz.isAgg9 rfl rfl (eqf_str Tryz.underlying9) (eqf_cons (by kernel_rfl) Tryz.isAgg4 rfl rfl (eqf_bool Tryz.underlying4) eqf_nil)))) ?_
      refine ch_nil ?_
      refine awp_cond (ev_tmp rfl) ?_ ?_
      · intro h24
        have hne : decide (a = b) = false := decide_eq_false fun e => by (subst e; rw [hx] at hy; injection hy with hy; rw [write_beq] at h24; simp [hy] at h24)
        rw [hne]
        refine awp_seq ?_
        refine awp_region ?_
        refine sq_plain rfl rfl rfl (w_assign rfl ev_cb) ?_
        refine sq_nil ?_
        refine awp_ret ?_
        exact retR rfl (rv_tmp' rfl (by rfl))
      · intro h24
        refine awp_skip ?_
        refine awp_region ?_
        refine sq_plain rfl rfl rfl (w_addi rfl (ev_tmp rfl) ev_ci (by first | omega | ((try simp only [List.length_map, List.length_take, List.length_cons, List.length_nil, chunks_len, szR] at *); omega) | (have hc2 := hc; simp only [Bool.and_eq_true, Bool.or_eq_true, Bool.or_eq_false_iff, Bool.and_eq_false_iff, Bool.not_eq_true', Bool.not_eq_false', decide_eq_true_eq, decide_eq_false_iff_not, beq_iff_eq, bne_iff_ne, List.length_map, List.length_take] at hc2; omega))) ?_
        refine sq_plain rfl rfl rfl (w_move rfl (ev_tmp rfl)) ?_
        refine sq_nil ?_
        refine round_end i (i + 1) ?_ ?_ (le_env ⟨rfl, rfl, rfl, rfl, trivial⟩)
        · exact ⟨by omega, by rw [List.take_add_one, List.take_add_one, hinv.2, hx, hy]; congr 2; rw [write_beq] at h24; simpa using h24⟩
        · omega
    · intro h14
      have k14 := of_decide_eq_false h14; try simp only [List.length_map] at k14
      have hyes : decide (a = b) = true := decide_eq_true (by have h9 := hinv.2; rw [List.take_of_length_le (by omega), List.take_of_length_le (by omega)] at h9; exact h9)
      rw [hyes]
      refine awp_exit ?_
      refine awp_seq ?_
      refine awp_region ?_
      refine sq_plain rfl rfl rfl (w_assign rfl ev_cb) ?_
      refine sq_nil ?_
      refine awp_ret ?_
      exact retR rfl (rv_tmp' rfl (by rfl))
theorem same_rec (a b : TRec) : ((((((a.Kind == b.Kind && a.Txn == b.Txn) && a.Time == b.Time) && a.Lead == b.Lead) && a.Yes == b.Yes) && decide (a.Reads = b.Reads)) && decide (a.Writes = b.Writes)) = decide (a = b) := by
  cases a; cases b
  rw [Bool.eq_iff_iff]
  simp only [Bool.and_eq_true, beq_iff_eq, decide_eq_true_eq, TRec.mk.injEq]
  constructor
  · rintro ⟨⟨⟨⟨⟨⟨h1, h2⟩, h3⟩, h4⟩, h5⟩, h6⟩, h7⟩; exact ⟨h1, h2, h3, h4, h6, h7, h5⟩
  · rintro ⟨h1, h2, h3, h4, h6, h7, h5⟩; exact ⟨⟨⟨⟨⟨⟨h1, h2⟩, h3⟩, h4⟩, h5⟩, h6⟩, h7⟩
theorem sameRec_spec (a b : TRec) : FSpec Tryz.prog 26 [AV.agg a.cs, AV.agg b.cs] (AV.bool (decide (a = b))) := by
  refine spec_of_awp Tryz.func26 rfl Tryz.ntmps26 rfl ?_
  refine awp_seq ?_
  refine awp_region ?_
  refine sq_box rfl rfl rfl rfl (ev_tmp rfl) ?_
  intro b2
  refine sq_box rfl rfl rfl rfl (ev_tmp rfl) ?_
  intro b3
  refine sq_plain rfl rfl rfl (w_assign rfl ev_cb) ?_
  refine sq_nil ?_
  refine awp_seq ?_
  refine awp_region ?_
  refine sq_plain rfl rfl rfl (w_fldBn 0 rfl Tryz.underlying37 rfl Tryz.sizeOf3 (ev_tmp rfl) rfl) ?_
  refine sq_plain rfl rfl rfl (w_loadB1 1 rfl (ev_tmp rfl) rfl Tryz.isAgg3 rfl) ?_
  refine sq_plain rfl rfl rfl (w_fldBn 0 rfl Tryz.underlying37 rfl Tryz.sizeOf3 (ev_tmp rfl) rfl) ?_
  refine sq_plain rfl rfl rfl (w_loadB1 0 rfl (ev_tmp rfl) rfl Tryz.isAgg3 rfl) ?_
  refine sq_plain rfl rfl rfl (w_eql rfl (ev_tmp rfl) (ev_tmp rfl)) ?_
  refine sq_plain rfl rfl rfl (w_move rfl (ev_tmp rfl)) ?_
  refine sq_grd rfl rfl (guard_t rfl rfl rfl) (fun hc => w_fldBn 1 rfl Tryz.underlying37 rfl Tryz.sizeOf3 (ev_tmp rfl) rfl) ?_
  refine sq_grd rfl rfl (guard_t rfl rfl rfl) (fun hc => w_loadB1 1 rfl (ev_whn rfl hc) rfl Tryz.isAgg3 rfl) ?_
  refine sq_grd rfl rfl (guard_t rfl rfl rfl) (fun hc => w_fldBn 1 rfl Tryz.underlying37 rfl Tryz.sizeOf3 (ev_tmp rfl) rfl) ?_
  refine sq_grd rfl rfl (guard_t rfl rfl rfl) (fun hc => w_loadB1 0 rfl (ev_whn rfl hc) rfl Tryz.isAgg3 rfl) ?_
  refine sq_grd rfl rfl (guard_t rfl rfl rfl) (fun hc => w_eql rfl (ev_whn rfl hc) (ev_whn rfl hc)) ?_
  refine sq_plain rfl rfl rfl (w_and rfl (ev_tmp rfl) (evif_w rfl)) ?_
  refine sq_plain rfl rfl rfl (w_move rfl (ev_tmp rfl)) ?_
  refine sq_grd rfl rfl (guard_t rfl rfl rfl) (fun hc => w_fldBn 2 rfl Tryz.underlying37 rfl Tryz.sizeOf3 (ev_tmp rfl) rfl) ?_
  refine sq_grd rfl rfl (guard_t rfl rfl rfl) (fun hc => w_loadB1 1 rfl (ev_whn rfl hc) rfl Tryz.isAgg3 rfl) ?_
  refine sq_grd rfl rfl (guard_t rfl rfl rfl) (fun hc => w_fldBn 2 rfl Tryz.underlying37 rfl Tryz.sizeOf3 (ev_tmp rfl) rfl) ?_
  refine sq_grd rfl rfl (guard_t rfl rfl rfl) (fun hc => w_loadB1 0 rfl (ev_whn rfl hc) rfl Tryz.isAgg3 rfl) ?_
  refine sq_grd rfl rfl (guard_t rfl rfl rfl) (fun hc => w_eql rfl (ev_whn rfl hc) (ev_whn rfl hc)) ?_
  refine sq_plain rfl rfl rfl (w_and rfl (ev_tmp rfl) (evif_w rfl)) ?_
  refine sq_plain rfl rfl rfl (w_move rfl (ev_tmp rfl)) ?_
  refine sq_grd rfl rfl (guard_t rfl rfl rfl) (fun hc => w_fldBn 3 rfl Tryz.underlying37 rfl Tryz.sizeOf3 (ev_tmp rfl) rfl) ?_
  refine sq_grd rfl rfl (guard_t rfl rfl rfl) (fun hc => w_loadB1 1 rfl (ev_whn rfl hc) rfl Tryz.isAgg3 rfl) ?_
  refine sq_grd rfl rfl (guard_t rfl rfl rfl) (fun hc => w_fldBn 3 rfl Tryz.underlying37 rfl Tryz.sizeOf3 (ev_tmp rfl) rfl) ?_
  refine sq_grd rfl rfl (guard_t rfl rfl rfl) (fun hc => w_loadB1 0 rfl (ev_whn rfl hc) rfl Tryz.isAgg3 rfl) ?_
  refine sq_grd rfl rfl (guard_t rfl rfl rfl) (fun hc => w_eql rfl (ev_whn rfl hc) (ev_whn rfl hc)) ?_
  refine sq_plain rfl rfl rfl (w_and rfl (ev_tmp rfl) (evif_w rfl)) ?_
  refine sq_plain rfl rfl rfl (w_move rfl (ev_tmp rfl)) ?_
  refine sq_grd rfl rfl (guard_t rfl rfl rfl) (fun hc => w_fldBn 6 rfl Tryz.underlying37 rfl Tryz.sizeOf4 (ev_tmp rfl) rfl) ?_
  refine sq_grd rfl rfl (guard_t rfl rfl rfl) (fun hc => w_loadB1 1 rfl (ev_whn rfl hc) rfl Tryz.isAgg4 rfl) ?_
  refine sq_grd rfl rfl (guard_t rfl rfl rfl) (fun hc => w_fldBn 6 rfl Tryz.underlying37 rfl Tryz.sizeOf4 (ev_tmp rfl) rfl) ?_
  refine sq_grd rfl rfl (guard_t rfl rfl rfl) (fun hc => w_loadB1 0 rfl (ev_whn rfl hc) rfl Tryz.isAgg4 rfl) ?_
  refine sq_grd rfl rfl (guard_t rfl rfl rfl) (fun hc => w_beql rfl Tryz.underlying4 (ev_whn rfl hc) (ev_whn rfl hc)) ?_
  refine sq_plain rfl rfl rfl (w_and rfl (ev_tmp rfl) (evif_w rfl)) ?_
  refine sq_plain rfl rfl rfl (w_move rfl (ev_tmp rfl)) ?_
  refine sq_grd rfl rfl (guard_t rfl rfl rfl) (fun hc => w_fldBn 4 rfl Tryz.underlying37 rfl Tryz.sizeOf34 (ev_tmp rfl) rfl) ?_
  refine sq_grd rfl rfl (guard_t rfl rfl rfl) (fun hc => w_loadB1 1 rfl (ev_whn rfl hc) rfl Tryz.isAgg34 rfl) ?_
  refine sq_grd rfl rfl (guard_t rfl rfl rfl) (fun hc => w_fldBn 4 rfl Tryz.underlying37 rfl Tryz.sizeOf34 (ev_tmp rfl) rfl) ?_
  refine sq_grd rfl rfl (guard_t rfl rfl rfl) (fun hc => w_loadB1 0 rfl (ev_whn rfl hc) rfl Tryz.isAgg34 rfl) ?_
  refine sq_grd rfl rfl (guard_t rfl rfl rfl) (fun hc => w_call rfl Tryz.call74 rfl (equalStr_spec a.Reads b.Reads) (evl_cons (ev_whn rfl hc) (evl_cons (ev_whn rfl hc) evl_nil))) ?_
  refine sq_plain rfl rfl rfl (w_and rfl (ev_tmp rfl) (evif_w rfl)) ?_
  refine sq_plain rfl rfl rfl (w_move rfl (ev_tmp rfl)) ?_
  refine sq_grd rfl rfl (guard_t rfl rfl rfl) (fun hc => w_fldBn 5 rfl Tryz.underlying37 rfl Tryz.sizeOf35 (ev_tmp rfl) rfl) ?_
  refine sq_grd rfl rfl (guard_t rfl rfl rfl) (fun hc => w_loadB1 1 rfl (ev_whn rfl hc) rfl Tryz.isAgg35 rfl) ?_
  refine sq_grd rfl rfl (guard_t rfl rfl rfl) (fun hc => w_fldBn 5 rfl Tryz.underlying37 rfl Tryz.sizeOf35 (ev_tmp rfl) rfl) ?_
  refine sq_grd rfl rfl (guard_t rfl rfl rfl) (fun hc => w_loadB1 0 rfl (ev_whn rfl hc) rfl Tryz.isAgg35 rfl) ?_
  refine sq_grd rfl rfl (guard_t rfl rfl rfl) (fun hc => w_call rfl Tryz.call75 rfl (equalW_spec a.Writes b.Writes) (evl_cons (ev_whn rfl hc) (evl_cons (ev_whn rfl hc) evl_nil))) ?_
  refine sq_plain rfl rfl rfl (w_and rfl (ev_tmp rfl) (evif_w rfl)) ?_
  refine sq_plain rfl rfl rfl (w_assign rfl (ev_tmp rfl)) ?_
  refine sq_nil ?_
  refine awp_ret ?_
  exact retR rfl (rv_tmp' rfl (by exact congrArg AV.bool (same_rec a b)))
theorem sameRecS_spec (a b : TRec) : FSpec Tryz.prog 25 [AV.agg a.cs, AV.agg b.cs] (AV.bool (decide (a = b))) := by
  refine spec_of_awp Tryz.func25 rfl Tryz.ntmps25 rfl ?_
  refine awp_seq ?_
  refine awp_region ?_
  refine sq_box rfl rfl rfl rfl (ev_tmp rfl) ?_
  intro b2
  refine sq_box rfl rfl rfl rfl (ev_tmp rfl) ?_
  intro b3
  refine sq_plain rfl rfl rfl (w_assign rfl ev_cb) ?_
  refine sq_nil ?_
  refine awp_seq ?_
  refine awp_region ?_
  refine sq_plain rfl rfl rfl (w_fldBn 0 rfl Tryz.underlying37 rfl Tryz.sizeOf3 (ev_tmp rfl) rfl) ?_
  refine sq_plain rfl rfl rfl (w_loadB1 1 rfl (ev_tmp rfl) rfl Tryz.isAgg3 rfl) ?_
  refine sq_plain rfl rfl rfl (w_fldBn 0 rfl Tryz.underlying37 rfl Tryz.sizeOf3 (ev_tmp rfl) rfl) ?_
  refine sq_plain rfl rfl rfl (w_loadB1 0 rfl (ev_tmp rfl) rfl Tryz.isAgg3 rfl) ?_
  refine sq_plain rfl rfl rfl (w_eql rfl (ev_tmp rfl) (ev_tmp rfl)) ?_
  refine sq_plain rfl rfl rfl (w_move rfl (ev_tmp rfl)) ?_
  refine sq_grd rfl rfl (guard_t rfl rfl rfl) (fun hc => w_fldBn 1 rfl Tryz.underlying37 rfl Tryz.sizeOf3 (ev_tmp rfl) rfl) ?_
  refine sq_grd rfl rfl (guard_t rfl rfl rfl) (fun hc => w_loadB1 1 rfl (ev_whn rfl hc) rfl Tryz.isAgg3 rfl) ?_
  refine sq_grd rfl rfl (guard_t rfl rfl rfl) (fun hc => w_fldBn 1 rfl Tryz.underlying37 rfl Tryz.sizeOf3 (ev_tmp rfl) rfl) ?_
  refine sq_grd rfl rfl (guard_t rfl rfl rfl) (fun hc => w_loadB1 0 rfl (ev_whn rfl hc) rfl Tryz.isAgg3 rfl) ?_
  refine sq_grd rfl rfl (guard_t rfl rfl rfl) (fun hc => w_eql rfl (ev_whn rfl hc) (ev_whn rfl hc)) ?_
  refine sq_plain rfl rfl rfl (w_and rfl (ev_tmp rfl) (evif_w rfl)) ?_
  refine sq_plain rfl rfl rfl (w_move rfl (ev_tmp rfl)) ?_
  refine sq_grd rfl rfl (guard_t rfl rfl rfl) (fun hc => w_fldBn 2 rfl Tryz.underlying37 rfl Tryz.sizeOf3 (ev_tmp rfl) rfl) ?_
  refine sq_grd rfl rfl (guard_t rfl rfl rfl) (fun hc => w_loadB1 1 rfl (ev_whn rfl hc) rfl Tryz.isAgg3 rfl) ?_
  refine sq_grd rfl rfl (guard_t rfl rfl rfl) (fun hc => w_fldBn 2 rfl Tryz.underlying37 rfl Tryz.sizeOf3 (ev_tmp rfl) rfl) ?_
  refine sq_grd rfl rfl (guard_t rfl rfl rfl) (fun hc => w_loadB1 0 rfl (ev_whn rfl hc) rfl Tryz.isAgg3 rfl) ?_
  refine sq_grd rfl rfl (guard_t rfl rfl rfl) (fun hc => w_eql rfl (ev_whn rfl hc) (ev_whn rfl hc)) ?_
  refine sq_plain rfl rfl rfl (w_and rfl (ev_tmp rfl) (evif_w rfl)) ?_
  refine sq_plain rfl rfl rfl (w_move rfl (ev_tmp rfl)) ?_
  refine sq_grd rfl rfl (guard_t rfl rfl rfl) (fun hc => w_fldBn 3 rfl Tryz.underlying37 rfl Tryz.sizeOf3 (ev_tmp rfl) rfl) ?_
  refine sq_grd rfl rfl (guard_t rfl rfl rfl) (fun hc => w_loadB1 1 rfl (ev_whn rfl hc) rfl Tryz.isAgg3 rfl) ?_
  refine sq_grd rfl rfl (guard_t rfl rfl rfl) (fun hc => w_fldBn 3 rfl Tryz.underlying37 rfl Tryz.sizeOf3 (ev_tmp rfl) rfl) ?_
  refine sq_grd rfl rfl (guard_t rfl rfl rfl) (fun hc => w_loadB1 0 rfl (ev_whn rfl hc) rfl Tryz.isAgg3 rfl) ?_
  refine sq_grd rfl rfl (guard_t rfl rfl rfl) (fun hc => w_eql rfl (ev_whn rfl hc) (ev_whn rfl hc)) ?_
  refine sq_plain rfl rfl rfl (w_and rfl (ev_tmp rfl) (evif_w rfl)) ?_
  refine sq_plain rfl rfl rfl (w_move rfl (ev_tmp rfl)) ?_
  refine sq_grd rfl rfl (guard_t rfl rfl rfl) (fun hc => w_fldBn 6 rfl Tryz.underlying37 rfl Tryz.sizeOf4 (ev_tmp rfl) rfl) ?_
  refine sq_grd rfl rfl (guard_t rfl rfl rfl) (fun hc => w_loadB1 1 rfl (ev_whn rfl hc) rfl Tryz.isAgg4 rfl) ?_
  refine sq_grd rfl rfl (guard_t rfl rfl rfl) (fun hc => w_fldBn 6 rfl Tryz.underlying37 rfl Tryz.sizeOf4 (ev_tmp rfl) rfl) ?_
  refine sq_grd rfl rfl (guard_t rfl rfl rfl) (fun hc => w_loadB1 0 rfl (ev_whn rfl hc) rfl Tryz.isAgg4 rfl) ?_
  refine sq_grd rfl rfl (guard_t rfl rfl rfl) (fun hc => w_beql rfl Tryz.underlying4 (ev_whn rfl hc) (ev_whn rfl hc)) ?_
  refine sq_plain rfl rfl rfl (w_and rfl (ev_tmp rfl) (evif_w rfl)) ?_
  refine sq_plain rfl rfl rfl (w_move rfl (ev_tmp rfl)) ?_
  refine sq_grd rfl rfl (guard_t rfl rfl rfl) (fun hc => w_fldBn 4 rfl Tryz.underlying37 rfl Tryz.sizeOf34 (ev_tmp rfl) rfl) ?_
  refine sq_grd rfl rfl (guard_t rfl rfl rfl) (fun hc => w_loadB1 1 rfl (ev_whn rfl hc) rfl Tryz.isAgg34 rfl) ?_
  refine sq_grd rfl rfl (guard_t rfl rfl rfl) (fun hc => w_fldBn 4 rfl Tryz.underlying37 rfl Tryz.sizeOf34 (ev_tmp rfl) rfl) ?_
  refine sq_grd rfl rfl (guard_t rfl rfl rfl) (fun hc => w_loadB1 0 rfl (ev_whn rfl hc) rfl Tryz.isAgg34 rfl) ?_
  refine sq_grd rfl rfl (guard_t rfl rfl rfl) (fun hc => w_call rfl Tryz.call72 rfl (sameS4_spec a.Reads b.Reads) (evl_cons (ev_whn rfl hc) (evl_cons (ev_whn rfl hc) evl_nil))) ?_
  refine sq_plain rfl rfl rfl (w_and rfl (ev_tmp rfl) (evif_w rfl)) ?_
  refine sq_plain rfl rfl rfl (w_move rfl (ev_tmp rfl)) ?_
  refine sq_grd rfl rfl (guard_t rfl rfl rfl) (fun hc => w_fldBn 5 rfl Tryz.underlying37 rfl Tryz.sizeOf35 (ev_tmp rfl) rfl) ?_
  refine sq_grd rfl rfl (guard_t rfl rfl rfl) (fun hc => w_loadB1 1 rfl (ev_whn rfl hc) rfl Tryz.isAgg35 rfl) ?_
  refine sq_grd rfl rfl (guard_t rfl rfl rfl) (fun hc => w_fldBn 5 rfl Tryz.underlying37 rfl Tryz.sizeOf35 (ev_tmp rfl) rfl) ?_
  refine sq_grd rfl rfl (guard_t rfl rfl rfl) (fun hc => w_loadB1 0 rfl (ev_whn rfl hc) rfl Tryz.isAgg35 rfl) ?_
  refine sq_grd rfl rfl (guard_t rfl rfl rfl) (fun hc => w_call rfl Tryz.call73 rfl (sameW4_spec a.Writes b.Writes) (evl_cons (ev_whn rfl hc) (evl_cons (ev_whn rfl hc) evl_nil))) ?_
  refine sq_plain rfl rfl rfl (w_and rfl (ev_tmp rfl) (evif_w rfl)) ?_
  refine sq_plain rfl rfl rfl (w_assign rfl (ev_tmp rfl)) ?_
  refine sq_nil ?_
  refine awp_ret ?_
  exact retR rfl (rv_tmp' rfl (by exact congrArg AV.bool (same_rec a b)))
theorem sortStrs_own (v : Value) (l : List Str) (hl : l.length < 4611686018427387904) : GSpec Tryz.prog 135 [AV.is v] [.arr v 9 1 (l.map fun s => [AV.str s])] (fun _ : Unit => True) (fun _ => [.arr v 9 1 ((sortS l).map fun s => [AV.str s])]) (fun _ => AV.tup []) :=
  row_own1 Go.Proofs.encStr (fun _ => rfl) sortS sortS_len
    (fun blk off cap zs w h1 h2 h3 => Any.slices_Sort_string Tryz.sortStrs blk off cap zs w h1 h2 h3) (fun p cap w => Any.slices_Sort_string_none Tryz.sortStrs p cap w) v l hl
end Go.Proofs.YtmlmmgeadombbaaGreatDoor

set_option linter.unusedVariables false
set_option linter.unusedSimpArgs false
set_option maxRecDepth 100000
set_option maxHeartbeats 1000000
namespace Go.Proofs.YtmlmmgeadombbaaGreatDoor
open Go Go.AV Go.M
attribute [local irreducible] OpW OpA OpS AWP FSpec ESpec GSpec OpE RetOk RetOkG RvDen Le Ev GuardIs SrcIs Int.tmod Int.tdiv IntKind.wrap
theorem str_at {l : List Str} {i j : Nat} {s : Str} (h : l[i]? = some s) (hj : j = i * 1) : ((l.map fun s => [AV.str s]).flatten)[j]? = some (AV.str s) := by
  rw [hj, Nat.mul_one]
  have e : (l.map fun s => [AV.str s]).flatten = l.map AV.str := by
    clear h
    induction l with
    | nil => rfl
    | cons x l ih => simp [ih]
  rw [e, List.getElem?_map, h]; rfl
theorem compactStr_own (v : Value) (l : List Str) (hl : l.length ≤ 4194304) : GSpec Tryz.prog 136 [AV.is v] [.arr v 9 1 (l.map fun s => [AV.str s])]
      (fun _ : Value => True) (fun v => [.arr v 9 1 ((cmpL l).map fun s => [AV.str s])]) (fun v => AV.is v) := by
  refine gspec_of_awp Tryz.func136 rfl Tryz.ntmps136 rfl ?_
  refine awp_seq ?_
  refine awp_region ?_
  refine sq_plain rfl rfl rfl (w_assign rfl ev_cnils) ?_
  refine sq_nil ?_
  refine awp_seq ?_
  refine awp_seq ?_
  refine awp_region ?_
  refine sq_plain rfl rfl rfl (w_move rfl (ev_tmp rfl)) ?_
  refine sq_plain rfl rfl rfl (w_alen 0 rfl Tryz.underlying34 (ev_tmp rfl) rfl) ?_
  refine sq_plain rfl rfl rfl (w_lss rfl (ev_tmp rfl) ev_ci) ?_
  refine sq_nil ?_
  refine awp_cond (ev_tmp rfl) ?_ ?_
  · intro h8
    have k8 := of_decide_eq_true h8; try simp only [List.length_map] at k8
    have hall : cmpL l = l := by (unfold cmpL; rw [cmpN_take (Nat.le_refl _) (fun i h1 h2 => by omega), List.take_length])
    refine awp_seq ?_
    refine awp_region ?_
    refine sq_plain rfl rfl rfl (w_move rfl (ev_tmp rfl)) ?_
    refine sq_plain rfl rfl rfl (w_assign rfl (ev_tmp rfl)) ?_
    refine sq_nil ?_
    refine awp_ret ?_
    exact retG [0] v (trivial) rfl (by first | exact congrArg (fun z => [Own.arr _ 9 1 (List.map (fun s => [AV.str s]) z)]) hall | (refine congrArg (fun z => [Own.arr _ 9 1 z]) ?_; exact (cmp_end hinv.2.2.2.2.1 hge (by omega)).symm)) (resR rfl (rv_tmp' rfl (by first | rfl | (refine congrArg AV.bool ?_; simp_all; done))))
  · intro h8
    have k8 := of_decide_eq_false h8; try simp only [List.length_map] at k8
    refine awp_skip ?_
    refine awp_seq ?_
    refine awp_seq ?_
    refine awp_region ?_
    refine sq_plain rfl rfl rfl (w_assign rfl ev_ci) ?_
    refine sq_nil ?_
    refine awp_block ?_
    refine awp_loop_i [(0, _)] _ (fun (k : Nat) => (1 ≤ k ∧ k ≤ l.length) ∧ ∀ i, 1 ≤ i → i < k → l[i]? ≠ l[i - 1]?) (fun (k : Nat) => []) (fun (k : Nat) => [(3, AV.int k)]) (fun (k : Nat) => l.length - k) (1) ?_ (le_env ⟨rfl, rfl, trivial⟩) ?_
    · exact ⟨⟨Nat.le_refl _, by omega⟩, fun i h1 h2 => by omega⟩
    intro k hinv
    refine awp_seq ?_
    refine awp_seq ?_
    refine awp_region ?_
    refine sq_plain rfl rfl rfl (w_move rfl (ev_tmp rfl)) ?_
    refine sq_plain rfl rfl rfl (w_move rfl (ev_tmp rfl)) ?_
    refine sq_plain rfl rfl rfl (w_alen 0 rfl Tryz.underlying34 (ev_tmp rfl) rfl) ?_
    refine sq_plain rfl rfl rfl (w_lss rfl (ev_tmp rfl) (ev_tmp rfl)) ?_
    refine sq_nil ?_
    refine awp_cond (ev_tmp rfl) ?_ ?_
    · intro h13
      have k13 := of_decide_eq_true h13; try simp only [List.length_map] at k13
      have hlt : k < l.length := by omega
      obtain ⟨x, hx⟩ := get_some hlt
      obtain ⟨y, hy⟩ := get_some (show k - 1 < l.length by omega)
      refine awp_skip ?_
      refine awp_seq ?_
      refine awp_block ?_
      refine awp_seq ?_
      refine awp_region_any (by kernel_rfl) (by kernel_rfl) rfl ?_
      refine ch_plain rfl rfl (w_move rfl (ev_tmp rfl)) ?_
      refine ch_plain rfl rfl (w_move rfl (ev_tmp rfl)) ?_
      refine ch_plain rfl rfl (w_aidx 0 rfl Tryz.underlying34 Tryz.sizeOf9 (ev_tmp rfl) rfl (ev_tmp rfl) (by first | omega | ((try simp only [List.length_map, List.length_take, List.length_cons, List.length_nil, chunks_len, szR] at *); omega) | (have hc2 := hc; simp only [Bool.and_eq_true, Bool.or_eq_true, Bool.or_eq_false_iff, Bool.and_eq_false_iff, Bool.not_eq_true', Bool.not_eq_false', decide_eq_true_eq, decide_eq_false_iff_not, beq_iff_eq, bne_iff_ne, List.length_map, List.length_take] at hc2; omega)) (by first | omega | ((try simp only [List.length_map, List.length_take, List.length_cons, List.length_nil, chunks_len, szR] at *); omega) | (have hc2 := hc; simp only [Bool.and_eq_true, Bool.or_eq_true, Bool.or_eq_false_iff, Bool.and_eq_false_iff, Bool.not_eq_true', Bool.not_eq_false', decide_eq_true_eq, decide_eq_false_iff_not, beq_iff_eq, bne_iff_ne, List.length_map, List.length_take] at hc2; omega))) ?_
      refine ch_plain rfl rfl (w_loadX1 0 rfl (ev_tmp rfl) rfl Tryz.isAgg9 (str_at hx (by omega))) ?_
      refine ch_plain rfl rfl (w_move rfl (ev_tmp rfl)) ?_
      refine ch_plain rfl rfl (w_move rfl (ev_tmp rfl)) ?_
      refine ch_plain rfl rfl (w_subi rfl (ev_tmp rfl) ev_ci (by first | omega | ((try simp only [List.length_map, List.length_take, List.length_cons, List.length_nil, chunks_len, szR] at *); omega) | (have hc2 := hc; simp only [Bool.and_eq_true, Bool.or_eq_true, Bool.or_eq_false_iff, Bool.and_eq_false_iff, Bool.not_eq_true', Bool.not_eq_false', decide_eq_true_eq, decide_eq_false_iff_not, beq_iff_eq, bne_iff_ne, List.length_map, List.length_take] at hc2; omega))) ?_
      refine ch_plain rfl rfl (w_aidx 0 rfl Tryz.underlying34 Tryz.sizeOf9 (ev_tmp rfl) rfl (ev_tmp rfl) (by first | omega | ((try simp only [List.length_map, List.length_take, List.length_cons, List.length_nil, chunks_len, szR] at *); omega) | (have hc2 := hc; simp only [Bool.and_eq_true, Bool.or_eq_true, Bool.or_eq_false_iff, Bool.and_eq_false_iff, Bool.not_eq_true', Bool.not_eq_false', decide_eq_true_eq, decide_eq_false_iff_not, beq_iff_eq, bne_iff_ne, List.length_map, List.length_take] at hc2; omega)) (by first | omega | ((try simp only [List.length_map, List.length_take, List.length_cons, List.length_nil, chunks_len, szR] at *); omega) | (have hc2 := hc; simp only [Bool.and_eq_true, Bool.or_eq_true, Bool.or_eq_false_iff, Bool.and_eq_false_iff, Bool.not_eq_true', Bool.not_eq_false', decide_eq_true_eq, decide_eq_false_iff_not, beq_iff_eq, bne_iff_ne, List.length_map, List.length_take] at hc2; omega))) ?_
      refine ch_plain rfl rfl (w_loadX1 0 rfl (ev_tmp rfl) rfl Tryz.isAgg9 (str_at hy (by omega))) ?_
      refine ch_plain rfl rfl (w_seql rfl (ev_tmp rfl) (ev_tmp rfl)) ?_
      refine ch_nil ?_
      refine awp_cond (ev_tmp rfl) ?_ ?_
      · intro h25
        have hxy : l[k]? = l[k - 1]? := by (rw [hx, hy]; have h9 := h25; simp at h9; rw [h9])
        have hinv0 := hinv
        refine awp_seq ?_
        refine awp_region ?_
        refine sq_plain rfl rfl rfl (w_move rfl (ev_tmp rfl)) ?_
        refine sq_plain rfl rfl rfl (w_move rfl (ev_tmp rfl)) ?_
        refine sq_plain rfl rfl rfl (w_alo 0 rfl Tryz.underlying34 Tryz.sizeOf9 (ev_tmp rfl) rfl (ev_tmp rfl) (by first | omega | ((try simp only [List.length_map, List.length_take, List.length_cons, List.length_nil, chunks_len, szR] at *); omega) | (have hc2 := hc; simp only [Bool.and_eq_true, Bool.or_eq_true, Bool.or_eq_false_iff, Bool.and_eq_false_iff, Bool.not_eq_true', Bool.not_eq_false', decide_eq_true_eq, decide_eq_false_iff_not, beq_iff_eq, bne_iff_ne, List.length_map, List.length_take] at hc2; omega)) (by first | omega | ((try simp only [List.length_map, List.length_take, List.length_cons, List.length_nil, chunks_len, szR] at *); omega) | (have hc2 := hc; simp only [Bool.and_eq_true, Bool.or_eq_true, Bool.or_eq_false_iff, Bool.and_eq_false_iff, Bool.not_eq_true', Bool.not_eq_false', decide_eq_true_eq, decide_eq_false_iff_not, beq_iff_eq, bne_iff_ne, List.length_map, List.length_take] at hc2; omega))) ?_
        refine sq_plain rfl rfl rfl (w_assign rfl (ev_tmp rfl)) ?_
        refine sq_nil ?_
        refine awp_seq ?_
        refine awp_seq ?_
        refine awp_region ?_
        refine sq_plain rfl rfl rfl (w_assign rfl ev_ci) ?_
        refine sq_nil ?_
        refine awp_block ?_
        refine awp_loop_i3 [(0, _), (4, _), (10, _), (11, _), (12, _), (13, _), (16, _), (17, _), (18, _), (19, _), (20, _), (21, _), (22, _), (23, _), (24, _), (25, _), (26, _), (27, _), (28, _)] _ (fun (i : Nat) (j : Nat) (m : List Str) => 1 ≤ j ∧ k + j ≤ l.length ∧ i + 1 ≤ k + j ∧ m.length = l.length ∧ m.take i = cmpN l (k + j) ∧ m.drop (k + j - 1) = l.drop (k + j - 1)) (fun (i : Nat) (j : Nat) (m : List Str) => [.arr v 9 1 (m.map fun s => [AV.str s])]) (fun (i : Nat) (j : Nat) (m : List Str) => [(3, AV.int i), (5, AV.int j)]) (fun (i : Nat) (j : Nat) (m : List Str) => l.length - (k + j)) (k) (1) (l) ?_ (le_eq (by rfl) ⟨rfl, rfl, rfl, rfl, rfl, rfl, rfl, rfl, rfl, rfl, rfl, rfl, rfl, rfl, rfl, rfl, rfl, rfl, rfl, rfl, rfl, trivial⟩) ?_
        · exact ⟨Nat.le_refl _, by omega, by omega, rfl, by rw [cmpN_same (by omega) hxy, cmpN_take (by omega) hinv0.2], rfl⟩
        intro i j m hinv
        refine awp_seq ?_
        refine awp_seq ?_
        refine awp_region ?_
        refine sq_plain rfl rfl rfl (w_move rfl (ev_tmp rfl)) ?_
        refine sq_plain rfl rfl rfl (w_move rfl (ev_tmp rfl)) ?_
        refine sq_plain rfl rfl rfl (w_tlen 0 rfl Tryz.underlying34 (ev_tmp rfl) rfl) ?_
        refine sq_plain rfl rfl rfl (w_lss rfl (ev_tmp rfl) (ev_tmp rfl)) ?_
        refine sq_nil ?_
        refine awp_cond (ev_tmp rfl) ?_ ?_
        · intro h32
          have k32 := of_decide_eq_true h32; try simp only [List.length_map] at k32
          have hm := hinv.2.2.2.1
          have hlt1 : k + j < l.length := by omega
          obtain ⟨x1, hx1⟩ := get_some hlt1
          obtain ⟨y1, hy1⟩ := get_some (show k + j - 1 < l.length by omega)
          have hmx := drop_eq_get2 hinv.2.2.2.2.2 hx1 (by omega)
          have hmy := drop_eq_get2 hinv.2.2.2.2.2 hy1 (by omega)
          refine awp_skip ?_
          refine awp_seq ?_
          refine awp_block ?_
          refine awp_seq ?_
          refine awp_region_any (by kernel_rfl) (by kernel_rfl) rfl ?_
          refine ch_plain rfl rfl (w_move rfl (ev_tmp rfl)) ?_
          refine ch_plain rfl rfl (w_move rfl (ev_tmp rfl)) ?_
          refine ch_plain rfl rfl (w_tidx 0 rfl Tryz.underlying34 Tryz.sizeOf9 (ev_tmp rfl) rfl (ev_tmp rfl) (by omega) (by simp only [List.length_map]; omega)) ?_
          refine ch_plain rfl rfl (w_loadX1 0 rfl (ev_tmp rfl) rfl Tryz.isAgg9 (str_at hmx (by rw [show ((k : Int).toNat + (j : Int).toNat) = k + j by omega]))) ?_
          refine ch_plain rfl rfl (w_move rfl (ev_tmp rfl)) ?_
          refine ch_plain rfl rfl (w_move rfl (ev_tmp rfl)) ?_
          refine ch_plain rfl rfl (w_subi rfl (ev_tmp rfl) ev_ci (by first | omega | ((try simp only [List.length_map, List.length_take, List.length_cons, List.length_nil, chunks_len, szR] at *); omega) | (have hc2 := hc; simp only [Bool.and_eq_true, Bool.or_eq_true, Bool.or_eq_false_iff, Bool.and_eq_false_iff, Bool.not_eq_true', Bool.not_eq_false', decide_eq_true_eq, decide_eq_false_iff_not, beq_iff_eq, bne_iff_ne, List.length_map, List.length_take] at hc2; omega))) ?_
          refine ch_plain rfl rfl (w_tidx 0 rfl Tryz.underlying34 Tryz.sizeOf9 (ev_tmp rfl) rfl (ev_tmp rfl) (by omega) (by simp only [List.length_map]; omega)) ?_
          refine ch_plain rfl rfl (w_loadX1 0 rfl (ev_tmp rfl) rfl Tryz.isAgg9 (str_at hmy (by rw [show ((k : Int).toNat + ((j : Int) - 1).toNat) = k + j - 1 by omega]))) ?_
          refine ch_plain rfl rfl (w_sneq rfl (ev_tmp rfl) (ev_tmp rfl)) ?_
          refine ch_nil ?_
          refine awp_cond (ev_tmp rfl) ?_ ?_
          · intro h44
            refine awp_seq ?_
            refine awp_region ?_
            refine sq_plain rfl rfl rfl (w_move rfl (ev_tmp rfl)) ?_
            refine sq_plain rfl rfl rfl (w_move rfl (ev_tmp rfl)) ?_
            refine sq_plain rfl rfl rfl (w_move rfl (ev_tmp rfl)) ?_
            refine sq_plain rfl rfl rfl (w_move rfl (ev_tmp rfl)) ?_
            refine sq_plain rfl rfl rfl (w_tidx 0 rfl Tryz.underlying34 Tryz.sizeOf9 (ev_tmp rfl) rfl (ev_tmp rfl) (by omega) (by simp only [List.length_map]; omega)) ?_
            refine sq_plain rfl rfl rfl (w_loadX1 0 rfl (ev_tmp rfl) rfl Tryz.isAgg9 (str_at hmx (by rw [show ((k : Int).toNat + (j : Int).toNat) = k + j by omega]))) ?_
            refine sq_plain rfl rfl rfl (w_aidx 0 rfl Tryz.underlying34 Tryz.sizeOf9 (ev_tmp rfl) rfl (ev_tmp rfl) (by omega) (by simp only [List.length_map]; omega)) ?_
            refine sq_storeA 0 rfl rfl rfl (ev_tmp rfl) (ev_tmp rfl) (as_str _) rfl Tryz.sizeOf9 rfl (by simp only [List.length_map, Int.toNat_natCast]; omega) ?_
            refine sq_nil ?_
            refine awp_region ?_
            refine sq_plain rfl rfl rfl (w_move rfl (ev_tmp rfl)) ?_
            refine sq_plain rfl rfl rfl (w_addi rfl (ev_tmp rfl) ev_ci (by first | omega | ((try simp only [List.length_map, List.length_take, List.length_cons, List.length_nil, chunks_len, szR] at *); omega) | (have hc2 := hc; simp only [Bool.and_eq_true, Bool.or_eq_true, Bool.or_eq_false_iff, Bool.and_eq_false_iff, Bool.not_eq_true', Bool.not_eq_false', decide_eq_true_eq, decide_eq_false_iff_not, beq_iff_eq, bne_iff_ne, List.length_map, List.length_take] at hc2; omega))) ?_
            refine sq_plain rfl rfl rfl (w_assign rfl (ev_tmp rfl)) ?_
            refine sq_nil ?_
            refine awp_region ?_
            refine sq_plain rfl rfl rfl (w_move rfl (ev_tmp rfl)) ?_
            refine sq_plain rfl rfl rfl (w_addi rfl (ev_tmp rfl) ev_ci (by first | omega | ((try simp only [List.length_map, List.length_take, List.length_cons, List.length_nil, chunks_len, szR] at *); omega) | (have hc2 := hc; simp only [Bool.and_eq_true, Bool.or_eq_true, Bool.or_eq_false_iff, Bool.and_eq_false_iff, Bool.not_eq_true', Bool.not_eq_false', decide_eq_true_eq, decide_eq_false_iff_not, beq_iff_eq, bne_iff_ne, List.length_map, List.length_take] at hc2; omega))) ?_
            refine sq_plain rfl rfl rfl (w_assign rfl (ev_tmp rfl)) ?_
            refine sq_nil ?_
            refine round_end3 i j m (i + 1) (j + 1) (m.set i x1) ?_ ?_ (le_eq (by first | exact congrArg (fun z => [Own.arr v 9 1 z]) (List.map_set).symm | rfl) ⟨rfl, rfl, rfl, rfl, rfl, rfl, rfl, rfl, rfl, rfl, rfl, rfl, rfl, rfl, rfl, rfl, rfl, rfl, rfl, rfl, rfl, trivial⟩)
            · exact cmp_keep hinv (by omega) hx1 hy1 (by simpa using h44)
            · omega
          · intro h44
            refine awp_skip ?_
            refine awp_region ?_
            refine sq_plain rfl rfl rfl (w_move rfl (ev_tmp rfl)) ?_
            refine sq_plain rfl rfl rfl (w_addi rfl (ev_tmp rfl) ev_ci (by first | omega | ((try simp only [List.length_map, List.length_take, List.length_cons, List.length_nil, chunks_len, szR] at *); omega) | (have hc2 := hc; simp only [Bool.and_eq_true, Bool.or_eq_true, Bool.or_eq_false_iff, Bool.and_eq_false_iff, Bool.not_eq_true', Bool.not_eq_false', decide_eq_true_eq, decide_eq_false_iff_not, beq_iff_eq, bne_iff_ne, List.length_map, List.length_take] at hc2; omega))) ?_
            refine sq_plain rfl rfl rfl (w_assign rfl (ev_tmp rfl)) ?_
            refine sq_nil ?_
            refine round_end3 i j m (i) (j + 1) (m) ?_ ?_ (le_eq (by first | exact congrArg (fun z => [Own.arr v 9 1 z]) (List.map_set).symm | rfl) ⟨rfl, rfl, rfl, rfl, rfl, rfl, rfl, rfl, rfl, rfl, rfl, rfl, rfl, rfl, rfl, rfl, rfl, rfl, rfl, rfl, rfl, trivial⟩)
            · exact cmp_skip hinv (by omega) hx1 hy1 (by simpa using h44)
            · omega
        · intro h32
          have k32 := of_decide_eq_false h32; try simp only [List.length_map] at k32
          have hm := hinv.2.2.2.1
          have hge : k + j = l.length := by omega
          refine awp_exit ?_
          refine awp_seq ?_
          refine awp_region ?_
          refine sq_plain rfl rfl rfl (w_move rfl (ev_tmp rfl)) ?_
          refine sq_plain rfl rfl rfl (w_move rfl (ev_tmp rfl)) ?_
          refine sq_plain rfl rfl rfl (w_alo 0 rfl Tryz.underlying34 Tryz.sizeOf9 (ev_tmp rfl) rfl (ev_tmp rfl) (by first | omega | ((try simp only [List.length_map, List.length_take, List.length_cons, List.length_nil, chunks_len, szR] at *); omega) | (have hc2 := hc; simp only [Bool.and_eq_true, Bool.or_eq_true, Bool.or_eq_false_iff, Bool.and_eq_false_iff, Bool.not_eq_true', Bool.not_eq_false', decide_eq_true_eq, decide_eq_false_iff_not, beq_iff_eq, bne_iff_ne, List.length_map, List.length_take] at hc2; omega)) (by first | omega | ((try simp only [List.length_map, List.length_take, List.length_cons, List.length_nil, chunks_len, szR] at *); omega) | (have hc2 := hc; simp only [Bool.and_eq_true, Bool.or_eq_true, Bool.or_eq_false_iff, Bool.and_eq_false_iff, Bool.not_eq_true', Bool.not_eq_false', decide_eq_true_eq, decide_eq_false_iff_not, beq_iff_eq, bne_iff_ne, List.length_map, List.length_take] at hc2; omega))) ?_
          refine sq_aclear 0 rfl rfl rfl Tryz.underlying34 Tryz.zeroValue9 rfl rfl (by decide) (ev_tmp rfl) rfl (by simp only [List.length_map, Int.toNat_natCast]; omega) ?_
          refine sq_nil ?_
          refine awp_seq ?_
          refine awp_region ?_
          refine sq_plain rfl rfl rfl (w_move rfl (ev_tmp rfl)) ?_
          refine sq_plain rfl rfl rfl (w_move rfl (ev_tmp rfl)) ?_
          refine sq_ahi 0 rfl rfl rfl rfl Tryz.underlying34 Tryz.sizeOf9 (ev_tmp rfl) rfl (ev_tmp rfl) (by omega) (by simp only [List.length_map, List.length_append, List.length_take, List.length_replicate]; omega) ?_
          intro v59_1
          refine sq_plain rfl rfl rfl (w_assign rfl (ev_tmp rfl)) ?_
          refine sq_nil ?_
          refine awp_ret ?_
          exact retG [0] v59_1 (trivial) rfl (by first | exact congrArg (fun z => [Own.arr _ 9 1 (List.map (fun s => [AV.str s]) z)]) hall | (refine congrArg (fun z => [Own.arr _ 9 1 z]) ?_; exact (cmp_end hinv.2.2.2.2.1 hge (by omega)).symm)) (resR rfl (rv_tmp' rfl (by first | rfl | (refine congrArg AV.bool ?_; simp_all; done))))
      · intro h25
        refine awp_skip ?_
        refine awp_region ?_
        refine sq_plain rfl rfl rfl (w_move rfl (ev_tmp rfl)) ?_
        refine sq_plain rfl rfl rfl (w_addi rfl (ev_tmp rfl) ev_ci (by first | omega | ((try simp only [List.length_map, List.length_take, List.length_cons, List.length_nil, chunks_len, szR] at *); omega) | (have hc2 := hc; simp only [Bool.and_eq_true, Bool.or_eq_true, Bool.or_eq_false_iff, Bool.and_eq_false_iff, Bool.not_eq_true', Bool.not_eq_false', decide_eq_true_eq, decide_eq_false_iff_not, beq_iff_eq, bne_iff_ne, List.length_map, List.length_take] at hc2; omega))) ?_
        refine sq_plain rfl rfl rfl (w_assign rfl (ev_tmp rfl)) ?_
        refine sq_nil ?_
        refine round_end k (k + 1) ?_ ?_ (le_env ⟨rfl, rfl, trivial⟩)
        · exact ⟨⟨by omega, by omega⟩, fun i h1 h2 => if e : i = k then (by subst e; rw [hx, hy]; intro e; injection e with e; subst e; simp at h25) else hinv.2 i h1 (by omega)⟩
        · omega
    · intro h13
      have k13 := of_decide_eq_false h13; try simp only [List.length_map] at k13
      have hall : cmpL l = l := by (unfold cmpL; rw [cmpN_take (Nat.le_refl _) (fun i h1 h2 => hinv.2 i h1 (by omega)), List.take_length])
      refine awp_exit ?_
      refine awp_seq ?_
      refine awp_region ?_
      refine sq_plain rfl rfl rfl (w_move rfl (ev_tmp rfl)) ?_
      refine sq_plain rfl rfl rfl (w_assign rfl (ev_tmp rfl)) ?_
      refine sq_nil ?_
      refine awp_ret ?_
      exact retG [0] v (trivial) rfl (by first | exact congrArg (fun z => [Own.arr _ 9 1 (List.map (fun s => [AV.str s]) z)]) hall | (refine congrArg (fun z => [Own.arr _ 9 1 z]) ?_; exact (cmp_end hinv.2.2.2.2.1 hge (by omega)).symm)) (resR rfl (rv_tmp' rfl (by first | rfl | (refine congrArg AV.bool ?_; simp_all; done))))
theorem keysOf_own (r : List Str) (w : List TWrite) (hr : r.length ≤ 1000000) (hw : sizeL TWrite.size w ≤ 1048576) : GSpec Tryz.prog 90 [strs r, AV.list 3 (w.map TWrite.cs)] [] (fun _ : Value => True) (fun v => [.arr v 9 1 ((keysI (r ++ wKeys w)).map fun s => [AV.str s])]) (fun v => AV.is v) := by
  have hwl : (wKeys w).length ≤ 1048576 := by have := sizeL_len (f := TWrite.size) (l := w); unfold wKeys; rw [List.length_map]; omega
  have hsl : (sortS (r ++ wKeys w)).length ≤ 4194304 := by rw [sortS_len, List.length_append]; omega
  refine gspec_of_awp Tryz.func90 rfl Tryz.ntmps90 rfl ?_
  refine awp_seq ?_
  refine awp_region ?_
  refine sq_plain rfl rfl rfl (w_assign rfl ev_cnils) ?_
  refine sq_nil ?_
  refine awp_seq ?_
  refine awp_region ?_
  refine sq_plain rfl rfl rfl (w_move rfl (ev_tmp rfl)) ?_
  refine sq_callG [] rfl rfl rfl rfl Tryz.call134 rfl (cloneString_spec _ (by first | assumption | omega)) (evl_cons (ev_tmp rfl) evl_nil) rfl ?_
  intro x7 ok7
  refine sq_plain rfl rfl rfl (w_move rfl (ev_tmp rfl)) ?_
  refine sq_plain rfl rfl rfl (w_call rfl Tryz.call119 rfl (writeKeys_spec w (by omega)) (evl_cons (ev_tmp rfl) evl_nil)) ?_
  refine sq_append (by' := 16) 0 rfl rfl rfl rfl Tryz.underlying34 Tryz.type9 rfl rfl rfl rfl rfl rfl (ev_tmp rfl) (ev_tmp rfl) rfl (by first | omega | ((try simp only [List.length_map, List.length_take, List.length_cons, List.length_nil, chunks_len, szR] at *); omega) | (have hc2 := hc; simp only [Bool.and_eq_true, Bool.or_eq_true, Bool.or_eq_false_iff, Bool.and_eq_false_iff, Bool.not_eq_true', Bool.not_eq_false', decide_eq_true_eq, decide_eq_false_iff_not, beq_iff_eq, bne_iff_ne, List.length_map, List.length_take] at hc2; omega)) ?_
  intro v10_1
  refine sq_plain rfl rfl rfl (w_assign rfl (ev_tmp rfl)) ?_
  refine sq_nil ?_
  refine awp_seq ?_
  refine awp_own (congrArg (fun z => [Own.arr _ 9 1 z]) (List.map_append (f := fun s => [AV.str s]) (l₁ := r) (l₂ := wKeys w)).symm) ?_
  refine awp_region ?_
  refine sq_plain rfl rfl rfl (w_move rfl (ev_tmp rfl)) ?_
  refine sq_callG [0] rfl rfl rfl rfl Tryz.call135 rfl (sortStrs_own _ (r ++ wKeys w) (by rw [List.length_append]; omega)) (evl_cons (ev_tmp rfl) evl_nil) rfl ?_
  intro x12 ok12
  refine sq_nil ?_
  refine awp_seq ?_
  refine awp_region ?_
  refine sq_plain rfl rfl rfl (w_move rfl (ev_tmp rfl)) ?_
  refine sq_callG [0] rfl rfl rfl rfl Tryz.call136 rfl (compactStr_own _ (sortS (r ++ wKeys w)) hsl) (evl_cons (ev_tmp rfl) evl_nil) rfl ?_
  intro x14 ok14
  refine sq_plain rfl rfl rfl (w_assign rfl (ev_tmp rfl)) ?_
  refine sq_nil ?_
  refine awp_ret ?_
  exact retG [0] x14 (trivial) rfl (by rfl) (resR rfl (rv_tmp' rfl (by rfl)))
theorem keysR_own (r : TRec) (hs : r.size ≤ 1048576) : GSpec Tryz.prog 33 [AV.agg r.cs] [] (fun _ : Value => True) (fun v => [.arr v 9 1 ((keysR r).1.map fun s => [AV.str s])]) (fun v => AV.tup [AV.is v, AV.bool (keysR r).2]) := by
  obtain ⟨hr1, hr2, hr3, hr4⟩ := rec_reads hs
  refine gspec_of_awp Tryz.func33 rfl Tryz.ntmps33 rfl ?_
  refine awp_seq ?_
  refine awp_region ?_
  refine sq_box rfl rfl rfl rfl (ev_tmp rfl) ?_
  intro b1
  refine sq_plain rfl rfl rfl (w_assign rfl ev_cnils) ?_
  refine sq_plain rfl rfl rfl (w_assign rfl ev_cb) ?_
  refine sq_nil ?_
  refine awp_seq ?_
  refine awp_seq ?_
  refine awp_region ?_
  refine sq_plain rfl rfl rfl (w_loadA 0 rfl (ev_tmp rfl) rfl Tryz.isAgg37 Tryz.sizeOf37 rfl) ?_
  refine sq_plain rfl rfl rfl (w_call rfl Tryz.call21 rfl (goodRec_spec _ (by first | assumption | omega)) (evl_cons (ev_tmp rfl) evl_nil)) ?_
  refine sq_plain rfl rfl rfl (w_not rfl (ev_tmp rfl)) ?_
  refine sq_nil ?_
  refine awp_cond (ev_tmp rfl) ?_ ?_
  · intro h6
    have he : keysR r = ([], false) := if_neg (by simpa using h6)
    rw [he]
    refine awp_seq ?_
    refine awp_region ?_
    refine sq_plain rfl rfl rfl (w_assign rfl ev_cnils) ?_
    refine sq_plain rfl rfl rfl (w_assign rfl ev_cb) ?_
    refine sq_nil ?_
    refine awp_ret ?_
    refine retG_nil 9 1 ?_
    exact retG [0] (Value.slice none 0 0) (trivial) rfl (by rfl) (resN rfl (by decide) (rv_cons (rv_tmp' rfl (by rfl)) (rv_cons (rv_tmp' rfl (by rfl)) rv_nil)))
  · intro h6
    have hg : goodRec r = true := by simpa using h6
    have he : keysR r = (keysI (r.Reads ++ wKeys r.Writes), true) := if_pos hg
    rw [he]
    have h8 := (goodR hg).reads.1
    refine awp_skip ?_
    refine awp_seq ?_
    refine awp_region ?_
    refine sq_plain rfl rfl rfl (w_fldBn 4 rfl Tryz.underlying37 rfl Tryz.sizeOf34 (ev_tmp rfl) rfl) ?_
    refine sq_plain rfl rfl rfl (w_loadB1 0 rfl (ev_tmp rfl) rfl Tryz.isAgg34 rfl) ?_
    refine sq_plain rfl rfl rfl (w_fldBn 5 rfl Tryz.underlying37 rfl Tryz.sizeOf35 (ev_tmp rfl) rfl) ?_
    refine sq_plain rfl rfl rfl (w_loadB1 0 rfl (ev_tmp rfl) rfl Tryz.isAgg35 rfl) ?_
    refine sq_callG [] rfl rfl rfl rfl Tryz.call90 rfl (keysOf_own r.Reads r.Writes (by omega) hr2) (evl_cons (ev_tmp rfl) (evl_cons (ev_tmp rfl) evl_nil)) rfl ?_
    intro x11 ok11
    refine sq_plain rfl rfl rfl (w_assign rfl (ev_tmp rfl)) ?_
    refine sq_plain rfl rfl rfl (w_assign rfl ev_cb) ?_
    refine sq_nil ?_
    refine awp_ret ?_
    exact retG [0] x11 (trivial) rfl (by rfl) (resN rfl (by decide) (rv_cons (rv_tmp' rfl (by rfl)) (rv_cons (rv_tmp' rfl (by rfl)) rv_nil)))
end Go.Proofs.YtmlmmgeadombbaaGreatDoor

set_option linter.unusedVariables false
set_option linter.unusedSimpArgs false
set_option maxRecDepth 100000
set_option maxHeartbeats 1000000
namespace Go.Proofs.YtmlmmgeadombbaaGreatDoor
open Go Go.AV Go.M
attribute [local irreducible] OpW OpA OpS AWP FSpec ESpec GSpec OpE RetOk RetOkG RvDen Le Ev GuardIs SrcIs Int.tmod Int.tdiv IntKind.wrap
theorem l1OwnS_own (l : List Str) (hl : l.length ≤ 4194304) : GSpec Tryz.prog 133 [strs l] [] (fun _ : Value => True) (fun v => [.arr v 9 1 (l.map fun s => [AV.str s])]) (fun v => AV.is v) := by
  refine gspec_of_awp Tryz.func133 rfl Tryz.ntmps133 rfl ?_
  refine awp_seq ?_
  refine awp_region ?_
  refine sq_plain rfl rfl rfl (w_assign rfl ev_cnils) ?_
  refine sq_nil ?_
  refine awp_seq ?_
  refine awp_region ?_
  refine sq_emptyarr rfl rfl rfl rfl Tryz.underlying34 Tryz.sizeOf9 ?_
  intro v3
  refine sq_plain rfl rfl rfl (w_move rfl (ev_tmp rfl)) ?_
  refine sq_append (by' := 16) 0 rfl rfl rfl rfl Tryz.underlying34 Tryz.type9 rfl rfl rfl rfl rfl rfl (ev_tmp rfl) (ev_tmp rfl) rfl (by simp only [List.length_nil, List.length_map]; omega) ?_
  intro v5_1
  refine sq_plain rfl rfl rfl (w_assign rfl (ev_tmp rfl)) ?_
  refine sq_nil ?_
  refine awp_ret ?_
  exact retG [0] v5_1 (trivial) rfl (by rfl) (resR rfl (rv_tmp' rfl (by rfl)))
theorem l4PutS_own (v : Value) (l : List Str) (s : Str) (hs : SrtS l) (hl : l.length ≤ 1000000) : GSpec Tryz.prog 126 [AV.is v, AV.str s] [.arr v 9 1 (l.map fun s => [AV.str s])] (fun _ : Value => True) (fun v' => [.arr v' 9 1 ((putS l s).map fun s => [AV.str s])]) (fun v' => AV.is v') := by
  refine gspec_of_awp Tryz.func126 rfl Tryz.ntmps126 rfl ?_
  refine awp_seq ?_
  refine awp_region ?_
  refine sq_plain rfl rfl rfl (w_assign rfl ev_cnils) ?_
  refine sq_nil ?_
  refine awp_seq ?_
  refine awp_region ?_
  refine sq_plain rfl rfl rfl (w_move rfl (ev_tmp rfl)) ?_
  refine sq_plain rfl rfl rfl (w_alen 0 rfl Tryz.underlying34 (ev_tmp rfl) rfl) ?_
  refine sq_plain rfl rfl rfl (w_assign rfl (ev_tmp rfl)) ?_
  refine sq_nil ?_
  refine awp_seq ?_
  refine awp_block ?_
  refine awp_loop_i [(0, _), (1, _), (4, _)] _ (fun (k : Nat) => k ≤ l.length ∧ ∀ i y, k ≤ i → l[i]? = some y → Op.bytesLess s y = true) (fun (k : Nat) => []) (fun (k : Nat) => [(5, AV.int k)]) (fun (k : Nat) => k) (l.length) ?_ (le_env ⟨congrArg (fun z => some (AV.int z)) (by rw [List.length_map]), rfl, rfl, rfl, trivial⟩) ?_
  · exact ⟨Nat.le_refl _, fun i y h1 h2 => by (have := (List.getElem?_eq_some_iff.1 h2).1; omega)⟩
  intro k hinv
  obtain ⟨y, hy0⟩ : ∃ y, 0 < k → l[k - 1]? = some y := by (by_cases h9 : 0 < k; (have h8 := hinv.1; exact ⟨_, fun _ => List.getElem?_eq_getElem (show k - 1 < l.length by omega)⟩); exact ⟨[], fun h8 => absurd h8 h9⟩)
  refine awp_seq ?_
  refine awp_seq ?_
  refine awp_region ?_
  refine sq_plain rfl rfl rfl (w_move rfl (ev_tmp rfl)) ?_
  refine sq_plain rfl rfl rfl (w_gtr rfl (ev_tmp rfl) ev_ci) ?_
  refine sq_plain rfl rfl rfl (w_move rfl (ev_tmp rfl)) ?_
  refine sq_grd rfl rfl (guard_t rfl rfl rfl) (fun hc => w_move rfl (ev_tmp rfl)) ?_
  refine sq_grd rfl rfl (guard_t rfl rfl rfl) (fun hc => w_move rfl (ev_tmp rfl)) ?_
  refine sq_grd rfl rfl (guard_t rfl rfl rfl) (fun hc => w_subi rfl (ev_whn rfl hc) ev_ci (by first | omega | ((try simp only [List.length_map, List.length_take, List.length_cons, List.length_nil, chunks_len, szR] at *); omega) | (have hc2 := hc; simp only [Bool.and_eq_true, Bool.or_eq_true, Bool.or_eq_false_iff, Bool.and_eq_false_iff, Bool.not_eq_true', Bool.not_eq_false', decide_eq_true_eq, decide_eq_false_iff_not, beq_iff_eq, bne_iff_ne, List.length_map, List.length_take] at hc2; omega))) ?_
  refine sq_grd rfl rfl (guard_t rfl rfl rfl) (fun hc => w_aidx 0 rfl Tryz.underlying34 Tryz.sizeOf9 (ev_whn rfl hc) rfl (ev_whn rfl hc) (by have := of_decide_eq_true hc; omega) (by have := of_decide_eq_true hc; have := hinv.1; simp only [List.length_map]; omega)) ?_
  refine sq_grd rfl rfl (guard_t rfl rfl rfl) (fun hc => w_loadX1 0 rfl (ev_whn rfl hc) rfl Tryz.isAgg9 (str_at (hy0 (by have := of_decide_eq_true hc; omega)) (by have := of_decide_eq_true hc; omega))) ?_
  refine sq_grd rfl rfl (guard_t rfl rfl rfl) (fun hc => w_move rfl (ev_tmp rfl)) ?_
  refine sq_grd rfl rfl (guard_t rfl rfl rfl) (fun hc => w_sgtr rfl (ev_whn rfl hc) (ev_whn rfl hc)) ?_
  refine sq_plain rfl rfl rfl (w_and rfl (ev_tmp rfl) (evif_w rfl)) ?_
  refine sq_nil ?_
  refine awp_cond (ev_tmp rfl) ?_ ?_
  · intro h19
    have hkt : 0 < k ∧ Op.bytesLess s y = true := by (rw [gt_less] at h19; simpa using h19)
    refine awp_skip ?_
    refine awp_block ?_
    refine awp_region ?_
    refine sq_plain rfl rfl rfl (w_move rfl (ev_tmp rfl)) ?_
    refine sq_plain rfl rfl rfl (w_subi rfl (ev_tmp rfl) ev_ci (by first | omega | ((try simp only [List.length_map, List.length_take, List.length_cons, List.length_nil, chunks_len, szR] at *); omega) | (have hc2 := hc; simp only [Bool.and_eq_true, Bool.or_eq_true, Bool.or_eq_false_iff, Bool.and_eq_false_iff, Bool.not_eq_true', Bool.not_eq_false', decide_eq_true_eq, decide_eq_false_iff_not, beq_iff_eq, bne_iff_ne, List.length_map, List.length_take] at hc2; omega))) ?_
    refine sq_plain rfl rfl rfl (w_assign rfl (ev_tmp rfl)) ?_
    refine sq_nil ?_
    refine blockN ?_
    refine round_end k (k - 1) ?_ ?_ (le_env ⟨congrArg (fun z => some (AV.int z)) (by omega), rfl, rfl, rfl, trivial⟩)
    · exact ⟨by omega, fun i z hi hz => if e : k ≤ i then hinv.2 i z e hz else (by have e2 : i = k - 1 := (by omega); subst e2; rw [hy0 hkt.1] at hz; injection hz with hz; subst hz; exact hkt.2)⟩
    · omega
  · intro h19
    have hng : 0 < k → Op.bytesLess s y = false := fun h => by (rw [gt_less] at h19; simpa [h] using h19)
    refine awp_exit ?_
    refine awp_seq ?_
    refine awp_seq ?_
    refine awp_region ?_
    refine sq_plain rfl rfl rfl (w_move rfl (ev_tmp rfl)) ?_
    refine sq_plain rfl rfl rfl (w_gtr rfl (ev_tmp rfl) ev_ci) ?_
    refine sq_plain rfl rfl rfl (w_move rfl (ev_tmp rfl)) ?_
    refine sq_grd rfl rfl (guard_t rfl rfl rfl) (fun hc => w_move rfl (ev_tmp rfl)) ?_
    refine sq_grd rfl rfl (guard_t rfl rfl rfl) (fun hc => w_move rfl (ev_tmp rfl)) ?_
    refine sq_grd rfl rfl (guard_t rfl rfl rfl) (fun hc => w_subi rfl (ev_whn rfl hc) ev_ci (by first | omega | ((try simp only [List.length_map, List.length_take, List.length_cons, List.length_nil, chunks_len, szR] at *); omega) | (have hc2 := hc; simp only [Bool.and_eq_true, Bool.or_eq_true, Bool.or_eq_false_iff, Bool.and_eq_false_iff, Bool.not_eq_true', Bool.not_eq_false', decide_eq_true_eq, decide_eq_false_iff_not, beq_iff_eq, bne_iff_ne, List.length_map, List.length_take] at hc2; omega))) ?_
    refine sq_grd rfl rfl (guard_t rfl rfl rfl) (fun hc => w_aidx 0 rfl Tryz.underlying34 Tryz.sizeOf9 (ev_whn rfl hc) rfl (ev_whn rfl hc) (by have := of_decide_eq_true hc; omega) (by have := of_decide_eq_true hc; have := hinv.1; simp only [List.length_map]; omega)) ?_
    refine sq_grd rfl rfl (guard_t rfl rfl rfl) (fun hc => w_loadX1 0 rfl (ev_whn rfl hc) rfl Tryz.isAgg9 (str_at (hy0 (by have := of_decide_eq_true hc; omega)) (by have := of_decide_eq_true hc; omega))) ?_
    refine sq_grd rfl rfl (guard_t rfl rfl rfl) (fun hc => w_move rfl (ev_tmp rfl)) ?_
    refine sq_grd rfl rfl (guard_t rfl rfl rfl) (fun hc => w_seql rfl (ev_whn rfl hc) (ev_whn rfl hc)) ?_
    refine sq_plain rfl rfl rfl (w_and rfl (ev_tmp rfl) (evif_w rfl)) ?_
    refine sq_nil ?_
    refine awp_cond (ev_tmp rfl) ?_ ?_
    · intro h32
      have hke : 0 < k ∧ y = s := by simpa using h32
      rw [putS_there hs (by rw [← hke.2]; exact hy0 hke.1)]
      refine awp_seq ?_
      refine awp_region ?_
      refine sq_plain rfl rfl rfl (w_move rfl (ev_tmp rfl)) ?_
      refine sq_plain rfl rfl rfl (w_assign rfl (ev_tmp rfl)) ?_
      refine sq_nil ?_
      refine awp_ret ?_
      exact retG [0] v (trivial) rfl (by first | rfl | exact congrArg (fun z => [Own.arr _ 9 1 z]) (by show List.map (fun s => [AV.str s]) (l.take k ++ s :: l.drop k) = (List.map (fun s => [AV.str s]) (l.take k) ++ [[AV.str s]]) ++ List.map (fun s => [AV.str s]) (l.drop k); simp)) (resR rfl (rv_tmp' rfl (by rfl)))
    · intro h32
      have hne : 0 < k → y ≠ s := fun h e => by simp [h, e] at h32
      rw [putS_stop hs hinv.1 hinv.2 (fun z hz hzz => by rw [hy0 hz] at hzz; injection hzz with hzz; subst hzz; exact ⟨hng hz, hne hz⟩)]
      refine awp_skip ?_
      refine awp_seq ?_
      refine awp_region ?_
      refine sq_plain rfl rfl rfl (w_move rfl (ev_tmp rfl)) ?_
      refine sq_plain rfl rfl rfl (w_move rfl (ev_tmp rfl)) ?_
      refine sq_plain rfl rfl rfl (w_alo 0 rfl Tryz.underlying34 Tryz.sizeOf9 (ev_tmp rfl) rfl (ev_tmp rfl) (by omega) (by simp only [List.length_map]; omega)) ?_
      refine sq_callGB [] rfl rfl rfl rfl Tryz.call133 rfl (l1OwnS_own (l.drop k) (by rw [List.length_drop]; omega)) rfl (evlb_cons (evb_lt (ev_tmp rfl) (lt_tailm (List.mem_of_getElem? (i := 0) rfl) (by omega) (by omega))) evlb_nil) (by first | exact flatO_nil | (intro _; exact flatO_nil) | (intro _; first | exact flat_is _ | exact flat_ik _ _ | exact flat_bool _ | exact flat_str _ | exact flat_nils) | (intro _; refine flat_tup ?_; (repeat (first | exact flatl_nil | (refine flatl_cons (by first | (first | exact flat_is _ | exact flat_ik _ _ | exact flat_bool _ | exact flat_str _ | exact flat_nils) | (refine flat_agg ?_; (repeat (first | exact flatl_nil | (refine flatl_cons (by first | exact flat_is _ | exact flat_ik _ _ | exact flat_bool _ | exact flat_str _ | exact flat_nils) ?_))))) ?_))); done) | (intro _; refine flat_agg ?_; (repeat (first | exact flatl_nil | (refine flatl_cons (by first | exact flat_is _ | exact flat_ik _ _ | exact flat_bool _ | exact flat_str _ | exact flat_nils) ?_))); done) | ((repeat (first | exact flatO_nil | (refine flatO_cons (flatO_box ?_) ?_; (repeat (first | exact flatl_nil | (refine flatl_cons (by first | exact flat_is _ | exact flat_ik _ _ | exact flat_bool _ | exact flat_str _ | exact flat_nils) ?_)))) | (refine flatO_cons (flatO_arr ?_) ?_; (repeat (first | exact flate_nil | (refine flate_map (fun _ => ?_); (first | exact TWrite.flat _ | exact TFeedItem.flat _ | exact TIdx.flat _ | exact TVer.flat _ | (repeat (first | exact flatl_nil | (refine flatl_cons (by first | exact flat_is _ | exact flat_ik _ _ | exact flat_bool _ | exact flat_str _ | exact flat_nils) ?_))))) | (refine flate_rep ?_; (first | exact TWrite.flat _ | exact TFeedItem.flat _ | exact TIdx.flat _ | exact TVer.flat _ | (repeat (first | exact flatl_nil | (refine flatl_cons (by first | exact flat_is _ | exact flat_ik _ _ | exact flat_bool _ | exact flat_str _ | exact flat_nils) ?_))))) | (refine flate_cons ?_ ?_; (first | exact TWrite.flat _ | exact TFeedItem.flat _ | exact TIdx.flat _ | exact TVer.flat _ | (repeat (first | exact flatl_nil | (refine flatl_cons (by first | exact flat_is _ | exact flat_ik _ _ | exact flat_bool _ | exact flat_str _ | exact flat_nils) ?_))))) | refine flate_app ?_ ?_))))); done) | (intro _; (repeat (first | exact flatO_nil | (refine flatO_cons (flatO_box ?_) ?_; (repeat (first | exact flatl_nil | (refine flatl_cons (by first | exact flat_is _ | exact flat_ik _ _ | exact flat_bool _ | exact flat_str _ | exact flat_nils) ?_)))) | (refine flatO_cons (flatO_arr ?_) ?_; (repeat (first | exact flate_nil | (refine flate_map (fun _ => ?_); (first | exact TWrite.flat _ | exact TFeedItem.flat _ | exact TIdx.flat _ | exact TVer.flat _ | (repeat (first | exact flatl_nil | (refine flatl_cons (by first | exact flat_is _ | exact flat_ik _ _ | exact flat_bool _ | exact flat_str _ | exact flat_nils) ?_))))) | (refine flate_rep ?_; (first | exact TWrite.flat _ | exact TFeedItem.flat _ | exact TIdx.flat _ | exact TVer.flat _ | (repeat (first | exact flatl_nil | (refine flatl_cons (by first | exact flat_is _ | exact flat_ik _ _ | exact flat_bool _ | exact flat_str _ | exact flat_nils) ?_))))) | (refine flate_cons ?_ ?_; (first | exact TWrite.flat _ | exact TFeedItem.flat _ | exact TIdx.flat _ | exact TVer.flat _ | (repeat (first | exact flatl_nil | (refine flatl_cons (by first | exact flat_is _ | exact flat_ik _ _ | exact flat_bool _ | exact flat_str _ | exact flat_nils) ?_))))) | refine flate_app ?_ ?_))))); done)) (by first | exact flatO_nil | (intro _; exact flatO_nil) | (intro _; first | exact flat_is _ | exact flat_ik _ _ | exact flat_bool _ | exact flat_str _ | exact flat_nils) | (intro _; refine flat_tup ?_; (repeat (first | exact flatl_nil | (refine flatl_cons (by first | (first | exact flat_is _ | exact flat_ik _ _ | exact flat_bool _ | exact flat_str _ | exact flat_nils) | (refine flat_agg ?_; (repeat (first | exact flatl_nil | (refine flatl_cons (by first | exact flat_is _ | exact flat_ik _ _ | exact flat_bool _ | exact flat_str _ | exact flat_nils) ?_))))) ?_))); done) | (intro _; refine flat_agg ?_; (repeat (first | exact flatl_nil | (refine flatl_cons (by first | exact flat_is _ | exact flat_ik _ _ | exact flat_bool _ | exact flat_str _ | exact flat_nils) ?_))); done) | ((repeat (first | exact flatO_nil | (refine flatO_cons (flatO_box ?_) ?_; (repeat (first | exact flatl_nil | (refine flatl_cons (by first | exact flat_is _ | exact flat_ik _ _ | exact flat_bool _ | exact flat_str _ | exact flat_nils) ?_)))) | (refine flatO_cons (flatO_arr ?_) ?_; (repeat (first | exact flate_nil | (refine flate_map (fun _ => ?_); (first | exact TWrite.flat _ | exact TFeedItem.flat _ | exact TIdx.flat _ | exact TVer.flat _ | (repeat (first | exact flatl_nil | (refine flatl_cons (by first | exact flat_is _ | exact flat_ik _ _ | exact flat_bool _ | exact flat_str _ | exact flat_nils) ?_))))) | (refine flate_rep ?_; (first | exact TWrite.flat _ | exact TFeedItem.flat _ | exact TIdx.flat _ | exact TVer.flat _ | (repeat (first | exact flatl_nil | (refine flatl_cons (by first | exact flat_is _ | exact flat_ik _ _ | exact flat_bool _ | exact flat_str _ | exact flat_nils) ?_))))) | (refine flate_cons ?_ ?_; (first | exact TWrite.flat _ | exact TFeedItem.flat _ | exact TIdx.flat _ | exact TVer.flat _ | (repeat (first | exact flatl_nil | (refine flatl_cons (by first | exact flat_is _ | exact flat_ik _ _ | exact flat_bool _ | exact flat_str _ | exact flat_nils) ?_))))) | refine flate_app ?_ ?_))))); done) | (intro _; (repeat (first | exact flatO_nil | (refine flatO_cons (flatO_box ?_) ?_; (repeat (first | exact flatl_nil | (refine flatl_cons (by first | exact flat_is _ | exact flat_ik _ _ | exact flat_bool _ | exact flat_str _ | exact flat_nils) ?_)))) | (refine flatO_cons (flatO_arr ?_) ?_; (repeat (first | exact flate_nil | (refine flate_map (fun _ => ?_); (first | exact TWrite.flat _ | exact TFeedItem.flat _ | exact TIdx.flat _ | exact TVer.flat _ | (repeat (first | exact flatl_nil | (refine flatl_cons (by first | exact flat_is _ | exact flat_ik _ _ | exact flat_bool _ | exact flat_str _ | exact flat_nils) ?_))))) | (refine flate_rep ?_; (first | exact TWrite.flat _ | exact TFeedItem.flat _ | exact TIdx.flat _ | exact TVer.flat _ | (repeat (first | exact flatl_nil | (refine flatl_cons (by first | exact flat_is _ | exact flat_ik _ _ | exact flat_bool _ | exact flat_str _ | exact flat_nils) ?_))))) | (refine flate_cons ?_ ?_; (first | exact TWrite.flat _ | exact TFeedItem.flat _ | exact TIdx.flat _ | exact TVer.flat _ | (repeat (first | exact flatl_nil | (refine flatl_cons (by first | exact flat_is _ | exact flat_ik _ _ | exact flat_bool _ | exact flat_str _ | exact flat_nils) ?_))))) | refine flate_app ?_ ?_))))); done)) (by first | exact flatO_nil | (intro _; exact flatO_nil) | (intro _; first | exact flat_is _ | exact flat_ik _ _ | exact flat_bool _ | exact flat_str _ | exact flat_nils) | (intro _; refine flat_tup ?_; (repeat (first | exact flatl_nil | (refine flatl_cons (by first | (first | exact flat_is _ | exact flat_ik _ _ | exact flat_bool _ | exact flat_str _ | exact flat_nils) | (refine flat_agg ?_; (repeat (first | exact flatl_nil | (refine flatl_cons (by first | exact flat_is _ | exact flat_ik _ _ | exact flat_bool _ | exact flat_str _ | exact flat_nils) ?_))))) ?_))); done) | (intro _; refine flat_agg ?_; (repeat (first | exact flatl_nil | (refine flatl_cons (by first | exact flat_is _ | exact flat_ik _ _ | exact flat_bool _ | exact flat_str _ | exact flat_nils) ?_))); done) | ((repeat (first | exact flatO_nil | (refine flatO_cons (flatO_box ?_) ?_; (repeat (first | exact flatl_nil | (refine flatl_cons (by first | exact flat_is _ | exact flat_ik _ _ | exact flat_bool _ | exact flat_str _ | exact flat_nils) ?_)))) | (refine flatO_cons (flatO_arr ?_) ?_; (repeat (first | exact flate_nil | (refine flate_map (fun _ => ?_); (first | exact TWrite.flat _ | exact TFeedItem.flat _ | exact TIdx.flat _ | exact TVer.flat _ | (repeat (first | exact flatl_nil | (refine flatl_cons (by first | exact flat_is _ | exact flat_ik _ _ | exact flat_bool _ | exact flat_str _ | exact flat_nils) ?_))))) | (refine flate_rep ?_; (first | exact TWrite.flat _ | exact TFeedItem.flat _ | exact TIdx.flat _ | exact TVer.flat _ | (repeat (first | exact flatl_nil | (refine flatl_cons (by first | exact flat_is _ | exact flat_ik _ _ | exact flat_bool _ | exact flat_str _ | exact flat_nils) ?_))))) | (refine flate_cons ?_ ?_; (first | exact TWrite.flat _ | exact TFeedItem.flat _ | exact TIdx.flat _ | exact TVer.flat _ | (repeat (first | exact flatl_nil | (refine flatl_cons (by first | exact flat_is _ | exact flat_ik _ _ | exact flat_bool _ | exact flat_str _ | exact flat_nils) ?_))))) | refine flate_app ?_ ?_))))); done) | (intro _; (repeat (first | exact flatO_nil | (refine flatO_cons (flatO_box ?_) ?_; (repeat (first | exact flatl_nil | (refine flatl_cons (by first | exact flat_is _ | exact flat_ik _ _ | exact flat_bool _ | exact flat_str _ | exact flat_nils) ?_)))) | (refine flatO_cons (flatO_arr ?_) ?_; (repeat (first | exact flate_nil | (refine flate_map (fun _ => ?_); (first | exact TWrite.flat _ | exact TFeedItem.flat _ | exact TIdx.flat _ | exact TVer.flat _ | (repeat (first | exact flatl_nil | (refine flatl_cons (by first | exact flat_is _ | exact flat_ik _ _ | exact flat_bool _ | exact flat_str _ | exact flat_nils) ?_))))) | (refine flate_rep ?_; (first | exact TWrite.flat _ | exact TFeedItem.flat _ | exact TIdx.flat _ | exact TVer.flat _ | (repeat (first | exact flatl_nil | (refine flatl_cons (by first | exact flat_is _ | exact flat_ik _ _ | exact flat_bool _ | exact flat_str _ | exact flat_nils) ?_))))) | (refine flate_cons ?_ ?_; (first | exact TWrite.flat _ | exact TFeedItem.flat _ | exact TIdx.flat _ | exact TVer.flat _ | (repeat (first | exact flatl_nil | (refine flatl_cons (by first | exact flat_is _ | exact flat_ik _ _ | exact flat_bool _ | exact flat_str _ | exact flat_nils) ?_))))) | refine flate_app ?_ ?_))))); done)) ?_
      intro x37 ok37
      refine sq_plain rfl rfl rfl (w_assign rfl (ev_tmp rfl)) ?_
      refine sq_nil ?_
      refine awp_seq ?_
      refine AWP.le (le_sealD [0] 6 rfl rfl (lt_arr (List.mem_of_getElem? (i := 0) rfl) le_refl_e) (gin_cons 0 rfl rfl gin_nil)) ?_
      refine awp_region ?_
      refine sq_plain rfl rfl rfl (w_move rfl (ev_tmp rfl)) ?_
      refine sq_plain rfl rfl rfl (w_move rfl (ev_tmp rfl)) ?_
      refine sq_ahi 0 rfl rfl rfl rfl Tryz.underlying34 Tryz.sizeOf9 (ev_tmp rfl) rfl (ev_tmp rfl) (by omega) (by simp only [List.length_map]; omega) ?_
      intro v40_1
      rw [Int.toNat_natCast, ← List.map_take]
      refine sq_callGB [] rfl rfl rfl rfl Tryz.call133 rfl (l1OwnS_own (l.take k) (by rw [List.length_take]; omega)) rfl (evlb_cons (evb_arr 0 (ev_tmp rfl) rfl) evlb_nil) (by first | exact flatO_nil | (intro _; exact flatO_nil) | (intro _; first | exact flat_is _ | exact flat_ik _ _ | exact flat_bool _ | exact flat_str _ | exact flat_nils) | (intro _; refine flat_tup ?_; (repeat (first | exact flatl_nil | (refine flatl_cons (by first | (first | exact flat_is _ | exact flat_ik _ _ | exact flat_bool _ | exact flat_str _ | exact flat_nils) | (refine flat_agg ?_; (repeat (first | exact flatl_nil | (refine flatl_cons (by first | exact flat_is _ | exact flat_ik _ _ | exact flat_bool _ | exact flat_str _ | exact flat_nils) ?_))))) ?_))); done) | (intro _; refine flat_agg ?_; (repeat (first | exact flatl_nil | (refine flatl_cons (by first | exact flat_is _ | exact flat_ik _ _ | exact flat_bool _ | exact flat_str _ | exact flat_nils) ?_))); done) | ((repeat (first | exact flatO_nil | (refine flatO_cons (flatO_box ?_) ?_; (repeat (first | exact flatl_nil | (refine flatl_cons (by first | exact flat_is _ | exact flat_ik _ _ | exact flat_bool _ | exact flat_str _ | exact flat_nils) ?_)))) | (refine flatO_cons (flatO_arr ?_) ?_; (repeat (first | exact flate_nil | (refine flate_map (fun _ => ?_); (first | exact TWrite.flat _ | exact TFeedItem.flat _ | exact TIdx.flat _ | exact TVer.flat _ | (repeat (first | exact flatl_nil | (refine flatl_cons (by first | exact flat_is _ | exact flat_ik _ _ | exact flat_bool _ | exact flat_str _ | exact flat_nils) ?_))))) | (refine flate_rep ?_; (first | exact TWrite.flat _ | exact TFeedItem.flat _ | exact TIdx.flat _ | exact TVer.flat _ | (repeat (first | exact flatl_nil | (refine flatl_cons (by first | exact flat_is _ | exact flat_ik _ _ | exact flat_bool _ | exact flat_str _ | exact flat_nils) ?_))))) | (refine flate_cons ?_ ?_; (first | exact TWrite.flat _ | exact TFeedItem.flat _ | exact TIdx.flat _ | exact TVer.flat _ | (repeat (first | exact flatl_nil | (refine flatl_cons (by first | exact flat_is _ | exact flat_ik _ _ | exact flat_bool _ | exact flat_str _ | exact flat_nils) ?_))))) | refine flate_app ?_ ?_))))); done) | (intro _; (repeat (first | exact flatO_nil | (refine flatO_cons (flatO_box ?_) ?_; (repeat (first | exact flatl_nil | (refine flatl_cons (by first | exact flat_is _ | exact flat_ik _ _ | exact flat_bool _ | exact flat_str _ | exact flat_nils) ?_)))) | (refine flatO_cons (flatO_arr ?_) ?_; (repeat (first | exact flate_nil | (refine flate_map (fun _ => ?_); (first | exact TWrite.flat _ | exact TFeedItem.flat _ | exact TIdx.flat _ | exact TVer.flat _ | (repeat (first | exact flatl_nil | (refine flatl_cons (by first | exact flat_is _ | exact flat_ik _ _ | exact flat_bool _ | exact flat_str _ | exact flat_nils) ?_))))) | (refine flate_rep ?_; (first | exact TWrite.flat _ | exact TFeedItem.flat _ | exact TIdx.flat _ | exact TVer.flat _ | (repeat (first | exact flatl_nil | (refine flatl_cons (by first | exact flat_is _ | exact flat_ik _ _ | exact flat_bool _ | exact flat_str _ | exact flat_nils) ?_))))) | (refine flate_cons ?_ ?_; (first | exact TWrite.flat _ | exact TFeedItem.flat _ | exact TIdx.flat _ | exact TVer.flat _ | (repeat (first | exact flatl_nil | (refine flatl_cons (by first | exact flat_is _ | exact flat_ik _ _ | exact flat_bool _ | exact flat_str _ | exact flat_nils) ?_))))) | refine flate_app ?_ ?_))))); done)) (by first | exact flatO_nil | (intro _; exact flatO_nil) | (intro _; first | exact flat_is _ | exact flat_ik _ _ | exact flat_bool _ | exact flat_str _ | exact flat_nils) | (intro _; refine flat_tup ?_; (repeat (first | exact flatl_nil | (refine flatl_cons (by first | (first | exact flat_is _ | exact flat_ik _ _ | exact flat_bool _ | exact flat_str _ | exact flat_nils) | (refine flat_agg ?_; (repeat (first | exact flatl_nil | (refine flatl_cons (by first | exact flat_is _ | exact flat_ik _ _ | exact flat_bool _ | exact flat_str _ | exact flat_nils) ?_))))) ?_))); done) | (intro _; refine flat_agg ?_; (repeat (first | exact flatl_nil | (refine flatl_cons (by first | exact flat_is _ | exact flat_ik _ _ | exact flat_bool _ | exact flat_str _ | exact flat_nils) ?_))); done) | ((repeat (first | exact flatO_nil | (refine flatO_cons (flatO_box ?_) ?_; (repeat (first | exact flatl_nil | (refine flatl_cons (by first | exact flat_is _ | exact flat_ik _ _ | exact flat_bool _ | exact flat_str _ | exact flat_nils) ?_)))) | (refine flatO_cons (flatO_arr ?_) ?_; (repeat (first | exact flate_nil | (refine flate_map (fun _ => ?_); (first | exact TWrite.flat _ | exact TFeedItem.flat _ | exact TIdx.flat _ | exact TVer.flat _ | (repeat (first | exact flatl_nil | (refine flatl_cons (by first | exact flat_is _ | exact flat_ik _ _ | exact flat_bool _ | exact flat_str _ | exact flat_nils) ?_))))) | (refine flate_rep ?_; (first | exact TWrite.flat _ | exact TFeedItem.flat _ | exact TIdx.flat _ | exact TVer.flat _ | (repeat (first | exact flatl_nil | (refine flatl_cons (by first | exact flat_is _ | exact flat_ik _ _ | exact flat_bool _ | exact flat_str _ | exact flat_nils) ?_))))) | (refine flate_cons ?_ ?_; (first | exact TWrite.flat _ | exact TFeedItem.flat _ | exact TIdx.flat _ | exact TVer.flat _ | (repeat (first | exact flatl_nil | (refine flatl_cons (by first | exact flat_is _ | exact flat_ik _ _ | exact flat_bool _ | exact flat_str _ | exact flat_nils) ?_))))) | refine flate_app ?_ ?_))))); done) | (intro _; (repeat (first | exact flatO_nil | (refine flatO_cons (flatO_box ?_) ?_; (repeat (first | exact flatl_nil | (refine flatl_cons (by first | exact flat_is _ | exact flat_ik _ _ | exact flat_bool _ | exact flat_str _ | exact flat_nils) ?_)))) | (refine flatO_cons (flatO_arr ?_) ?_; (repeat (first | exact flate_nil | (refine flate_map (fun _ => ?_); (first | exact TWrite.flat _ | exact TFeedItem.flat _ | exact TIdx.flat _ | exact TVer.flat _ | (repeat (first | exact flatl_nil | (refine flatl_cons (by first | exact flat_is _ | exact flat_ik _ _ | exact flat_bool _ | exact flat_str _ | exact flat_nils) ?_))))) | (refine flate_rep ?_; (first | exact TWrite.flat _ | exact TFeedItem.flat _ | exact TIdx.flat _ | exact TVer.flat _ | (repeat (first | exact flatl_nil | (refine flatl_cons (by first | exact flat_is _ | exact flat_ik _ _ | exact flat_bool _ | exact flat_str _ | exact flat_nils) ?_))))) | (refine flate_cons ?_ ?_; (first | exact TWrite.flat _ | exact TFeedItem.flat _ | exact TIdx.flat _ | exact TVer.flat _ | (repeat (first | exact flatl_nil | (refine flatl_cons (by first | exact flat_is _ | exact flat_ik _ _ | exact flat_bool _ | exact flat_str _ | exact flat_nils) ?_))))) | refine flate_app ?_ ?_))))); done)) (by first | exact flatO_nil | (intro _; exact flatO_nil) | (intro _; first | exact flat_is _ | exact flat_ik _ _ | exact flat_bool _ | exact flat_str _ | exact flat_nils) | (intro _; refine flat_tup ?_; (repeat (first | exact flatl_nil | (refine flatl_cons (by first | (first | exact flat_is _ | exact flat_ik _ _ | exact flat_bool _ | exact flat_str _ | exact flat_nils) | (refine flat_agg ?_; (repeat (first | exact flatl_nil | (refine flatl_cons (by first | exact flat_is _ | exact flat_ik _ _ | exact flat_bool _ | exact flat_str _ | exact flat_nils) ?_))))) ?_))); done) | (intro _; refine flat_agg ?_; (repeat (first | exact flatl_nil | (refine flatl_cons (by first | exact flat_is _ | exact flat_ik _ _ | exact flat_bool _ | exact flat_str _ | exact flat_nils) ?_))); done) | ((repeat (first | exact flatO_nil | (refine flatO_cons (flatO_box ?_) ?_; (repeat (first | exact flatl_nil | (refine flatl_cons (by first | exact flat_is _ | exact flat_ik _ _ | exact flat_bool _ | exact flat_str _ | exact flat_nils) ?_)))) | (refine flatO_cons (flatO_arr ?_) ?_; (repeat (first | exact flate_nil | (refine flate_map (fun _ => ?_); (first | exact TWrite.flat _ | exact TFeedItem.flat _ | exact TIdx.flat _ | exact TVer.flat _ | (repeat (first | exact flatl_nil | (refine flatl_cons (by first | exact flat_is _ | exact flat_ik _ _ | exact flat_bool _ | exact flat_str _ | exact flat_nils) ?_))))) | (refine flate_rep ?_; (first | exact TWrite.flat _ | exact TFeedItem.flat _ | exact TIdx.flat _ | exact TVer.flat _ | (repeat (first | exact flatl_nil | (refine flatl_cons (by first | exact flat_is _ | exact flat_ik _ _ | exact flat_bool _ | exact flat_str _ | exact flat_nils) ?_))))) | (refine flate_cons ?_ ?_; (first | exact TWrite.flat _ | exact TFeedItem.flat _ | exact TIdx.flat _ | exact TVer.flat _ | (repeat (first | exact flatl_nil | (refine flatl_cons (by first | exact flat_is _ | exact flat_ik _ _ | exact flat_bool _ | exact flat_str _ | exact flat_nils) ?_))))) | refine flate_app ?_ ?_))))); done) | (intro _; (repeat (first | exact flatO_nil | (refine flatO_cons (flatO_box ?_) ?_; (repeat (first | exact flatl_nil | (refine flatl_cons (by first | exact flat_is _ | exact flat_ik _ _ | exact flat_bool _ | exact flat_str _ | exact flat_nils) ?_)))) | (refine flatO_cons (flatO_arr ?_) ?_; (repeat (first | exact flate_nil | (refine flate_map (fun _ => ?_); (first | exact TWrite.flat _ | exact TFeedItem.flat _ | exact TIdx.flat _ | exact TVer.flat _ | (repeat (first | exact flatl_nil | (refine flatl_cons (by first | exact flat_is _ | exact flat_ik _ _ | exact flat_bool _ | exact flat_str _ | exact flat_nils) ?_))))) | (refine flate_rep ?_; (first | exact TWrite.flat _ | exact TFeedItem.flat _ | exact TIdx.flat _ | exact TVer.flat _ | (repeat (first | exact flatl_nil | (refine flatl_cons (by first | exact flat_is _ | exact flat_ik _ _ | exact flat_bool _ | exact flat_str _ | exact flat_nils) ?_))))) | (refine flate_cons ?_ ?_; (first | exact TWrite.flat _ | exact TFeedItem.flat _ | exact TIdx.flat _ | exact TVer.flat _ | (repeat (first | exact flatl_nil | (refine flatl_cons (by first | exact flat_is _ | exact flat_ik _ _ | exact flat_bool _ | exact flat_str _ | exact flat_nils) ?_))))) | refine flate_app ?_ ?_))))); done)) ?_
      intro x41 ok41
      refine sq_plain rfl rfl rfl (w_move rfl (ev_tmp rfl)) ?_
      refine sq_plain rfl rfl rfl (w_bslice rfl Tryz.underlying34 Tryz.sizeOf9 Tryz.zeroValue9 rfl rfl rfl rfl (bp_cons (ev_tmp rfl) (as_str _) bp_nil) rfl rfl) ?_
      refine sq_append (by' := 16) 0 rfl rfl rfl rfl Tryz.underlying34 Tryz.type9 rfl rfl rfl rfl rfl rfl (ev_tmp rfl) (ev_tmp rfl) rfl (by simp only [List.length_map, List.length_take, chunks_len]; omega) ?_
      intro v44_2
      refine sq_plain rfl rfl rfl (w_move rfl (ev_tmp rfl)) ?_
      refine sq_append (by' := 16) 0 rfl rfl rfl rfl Tryz.underlying34 Tryz.type9 rfl rfl rfl rfl rfl rfl (ev_tmp rfl) (ev_tmp rfl) rfl (by simp only [List.length_map, List.length_take, List.length_drop, List.length_append, chunks_len]; omega) ?_
      intro v46_3
      refine sq_plain rfl rfl rfl (w_assign rfl (ev_tmp rfl)) ?_
      refine sq_nil ?_
      refine awp_ret ?_
      exact retG [0] v46_3 (trivial) rfl (by first | rfl | exact congrArg (fun z => [Own.arr _ 9 1 z]) (by show List.map (fun s => [AV.str s]) (l.take k ++ s :: l.drop k) = (List.map (fun s => [AV.str s]) (l.take k) ++ [[AV.str s]]) ++ List.map (fun s => [AV.str s]) (l.drop k); simp)) (resR rfl (rv_tmp' rfl (by rfl)))
theorem l4KeysOf_own (r : List Str) (w : List TWrite) (hr : r.length ≤ 400000) (hw : w.length ≤ 400000) : GSpec Tryz.prog 91 [strs r, AV.list 3 (w.map TWrite.cs)] [] (fun _ : Value => True) (fun v => [.arr v 9 1 ((putAllS (r ++ wKeys w) []).map fun s => [AV.str s])]) (fun v => AV.is v) := by
  refine gspec_of_awp Tryz.func91 rfl Tryz.ntmps91 rfl ?_
  refine awp_seq ?_
  refine awp_region ?_
  refine sq_plain rfl rfl rfl (w_assign rfl ev_cnils) ?_
  refine sq_nil ?_
  refine awp_seq ?_
  refine awp_region ?_
  refine sq_nilarr 9 1 rfl rfl rfl rfl ev_cnils ?_
  intro v5
  refine sq_nil ?_
  refine awp_seq ?_
  refine awp_seq ?_
  refine awp_region ?_
  refine sq_plain rfl rfl rfl (w_move rfl (ev_tmp rfl)) ?_
  refine sq_plain rfl rfl rfl (w_llen rfl Tryz.underlying34 (ev_tmp rfl)) ?_
  refine sq_plain rfl rfl rfl (w_move rfl ev_ci) ?_
  refine sq_nil ?_
  refine awp_block ?_
  refine awp_loop_i2 [(1, _), (4, _), (10, _), (11, _)] _ (fun (i : Nat) (v : Value) => i ≤ r.length) (fun (i : Nat) (v : Value) => [.arr v 9 1 ((putAllS (r.take i) []).map fun s => [AV.str s])]) (fun (i : Nat) (v : Value) => [(5, AV.is v), (12, AV.int i)]) (fun (i : Nat) (v : Value) => r.length - i) (0) (v5) ?_ (le_eq (by rfl) ⟨rfl, rfl, rfl, rfl, rfl, rfl, trivial⟩) ?_
  · exact Nat.zero_le _
  intro i v hinv
  refine awp_seq ?_
  refine awp_region ?_
  refine sq_plain rfl rfl rfl (w_lss rfl (ev_tmp rfl) (ev_tmp rfl)) ?_
  refine sq_nil ?_
  refine awp_seq ?_
  refine awp_cond (ev_tmp rfl) ?_ ?_
  · intro h13
    have k13 := of_decide_eq_true h13; try simp only [List.length_map] at k13
    have hlt : i < r.length := by omega
    obtain ⟨x, hx⟩ := get_some hlt
    have hpl := putAllS_len (r.take i) []
    rw [List.length_take] at hpl
    refine awp_skip ?_
    refine awp_seq ?_
    refine awp_block ?_
    refine awp_seq ?_
    refine awp_region ?_
    refine sq_plain rfl rfl rfl (w_idxm rfl Tryz.underlying34 Tryz.sizeOf9 (ev_tmp rfl) (ev_tmp rfl) hx (by first | omega | ((try simp only [List.length_map, List.length_take, List.length_cons, List.length_nil, chunks_len, szR] at *); omega) | (have hc2 := hc; simp only [Bool.and_eq_true, Bool.or_eq_true, Bool.or_eq_false_iff, Bool.and_eq_false_iff, Bool.not_eq_true', Bool.not_eq_false', decide_eq_true_eq, decide_eq_false_iff_not, beq_iff_eq, bne_iff_ne, List.length_map, List.length_take] at hc2; omega))) ?_
    refine sq_plain rfl rfl rfl (w_loadE1 rfl (ev_tmp rfl) Tryz.isAgg9 rfl) ?_
    refine sq_plain rfl rfl rfl (w_assign rfl (ev_tmp rfl)) ?_
    refine sq_nil ?_
    refine awp_region ?_
    refine sq_plain rfl rfl rfl (w_move rfl (ev_tmp rfl)) ?_
    refine sq_plain rfl rfl rfl (w_move rfl (ev_tmp rfl)) ?_
    refine sq_callG [0] rfl rfl rfl rfl Tryz.call126 rfl (l4PutS_own v (putAllS (r.take i) []) x (putAllS_srt List.Pairwise.nil).1 (by simp only [List.length_nil] at hpl; omega)) (evl_cons (ev_tmp rfl) (evl_cons (ev_tmp rfl) evl_nil)) rfl ?_
    intro x18 ok18
    refine sq_plain rfl rfl rfl (w_assign rfl (ev_tmp rfl)) ?_
    refine sq_nil ?_
    refine awp_region ?_
    refine sq_plain rfl rfl rfl (w_addi rfl (ev_tmp rfl) ev_ci (by first | omega | ((try simp only [List.length_map, List.length_take, List.length_cons, List.length_nil, chunks_len, szR] at *); omega) | (have hc2 := hc; simp only [Bool.and_eq_true, Bool.or_eq_true, Bool.or_eq_false_iff, Bool.and_eq_false_iff, Bool.not_eq_true', Bool.not_eq_false', decide_eq_true_eq, decide_eq_false_iff_not, beq_iff_eq, bne_iff_ne, List.length_map, List.length_take] at hc2; omega))) ?_
    refine sq_plain rfl rfl rfl (w_move rfl (ev_tmp rfl)) ?_
    refine sq_nil ?_
    refine round_end2 i v (i + 1) (x18) ?_ ?_ (le_eq (by exact congrArg (fun z => [Own.arr _ 9 1 (List.map (fun s => [AV.str s]) z)]) (by rw [List.take_add_one, hx]; exact (putAllS_snoc _ _ _).symm)) ⟨rfl, rfl, rfl, rfl, rfl, rfl, trivial⟩)
    · omega
    · omega
  · intro h13
    have k13 := of_decide_eq_false h13; try simp only [List.length_map] at k13
    have hge : i = r.length := by omega
    rw [hge, List.take_length]
    refine awp_exit ?_
    refine awp_seq ?_
    refine awp_seq ?_
    refine awp_region ?_
    refine sq_plain rfl rfl rfl (w_move rfl (ev_tmp rfl)) ?_
    refine sq_plain rfl rfl rfl (w_llen rfl Tryz.underlying35 (ev_tmp rfl)) ?_
    refine sq_plain rfl rfl rfl (w_move rfl ev_ci) ?_
    refine sq_nil ?_
    refine awp_block ?_
    refine awp_loop_i2 [(4, _), (20, _), (21, _)] _ (fun (j : Nat) (u : Value) => j ≤ w.length) (fun (j : Nat) (u : Value) => [.arr u 9 1 ((putAllS (r ++ wKeys (w.take j)) []).map fun s => [AV.str s])]) (fun (j : Nat) (u : Value) => [(5, AV.is u), (22, AV.int j)]) (fun (j : Nat) (u : Value) => w.length - j) (0) (v) ?_ (le_eq (by (show [_] = [_]; simp [wKeys])) ⟨rfl, rfl, rfl, rfl, rfl, trivial⟩) ?_
    · exact Nat.zero_le _
    intro j u hinv
    refine awp_seq ?_
    refine awp_region ?_
    refine sq_plain rfl rfl rfl (w_lss rfl (ev_tmp rfl) (ev_tmp rfl)) ?_
    refine sq_nil ?_
    refine awp_seq ?_
    refine awp_cond (ev_tmp rfl) ?_ ?_
    · intro h23
      have k23 := of_decide_eq_true h23; try simp only [List.length_map] at k23
      have hlt : j < w.length := by omega
      obtain ⟨x, hx⟩ := get_some hlt
      have hpl := putAllS_len (r ++ wKeys (w.take j)) []
      simp only [List.length_append, wKeys, List.length_map, List.length_take, List.length_nil] at hpl
      refine awp_skip ?_
      refine awp_seq ?_
      refine awp_block ?_
      refine awp_seq ?_
      refine awp_region ?_
      refine sq_plain rfl rfl rfl (w_idxm rfl Tryz.underlying35 Tryz.sizeOf79 (ev_tmp rfl) (ev_tmp rfl) hx (by first | omega | ((try simp only [List.length_map, List.length_take, List.length_cons, List.length_nil, chunks_len, szR] at *); omega) | (have hc2 := hc; simp only [Bool.and_eq_true, Bool.or_eq_true, Bool.or_eq_false_iff, Bool.and_eq_false_iff, Bool.not_eq_true', Bool.not_eq_false', decide_eq_true_eq, decide_eq_false_iff_not, beq_iff_eq, bne_iff_ne, List.length_map, List.length_take] at hc2; omega))) ?_
      refine sq_plain rfl rfl rfl (w_loadE rfl (ev_tmp rfl) Tryz.isAgg79 Tryz.sizeOf79) ?_
      refine sq_alloc rfl rfl rfl rfl Tryz.zeroValue79 rfl ?_
      intro b9
      refine sq_storeB0 0 rfl rfl rfl (ev_tmp rfl) (ev_tmp rfl) (as_agg _) rfl Tryz.sizeOf79 rfl ?_
      refine sq_nil ?_
      refine awp_region ?_
      refine sq_plain rfl rfl rfl (w_move rfl (ev_tmp rfl)) ?_
      refine sq_plain rfl rfl rfl (w_fldBn 0 rfl Tryz.underlying79 rfl Tryz.sizeOf9 (ev_tmp rfl) rfl) ?_
      refine sq_plain rfl rfl rfl (w_loadB1 0 rfl (ev_tmp rfl) rfl Tryz.isAgg9 rfl) ?_
      refine sq_callG [1] rfl rfl rfl rfl Tryz.call126 rfl (l4PutS_own u (putAllS (r ++ wKeys (w.take j)) []) x.Key (putAllS_srt List.Pairwise.nil).1 (by simp only [wKeys] at hpl ⊢; omega)) (evl_cons (ev_tmp rfl) (evl_cons (ev_tmp rfl) evl_nil)) rfl ?_
      intro x29 ok29
      refine sq_plain rfl rfl rfl (w_assign rfl (ev_tmp rfl)) ?_
      refine sq_nil ?_
      refine awp_region ?_
      refine sq_plain rfl rfl rfl (w_addi rfl (ev_tmp rfl) ev_ci (by first | omega | ((try simp only [List.length_map, List.length_take, List.length_cons, List.length_nil, chunks_len, szR] at *); omega) | (have hc2 := hc; simp only [Bool.and_eq_true, Bool.or_eq_true, Bool.or_eq_false_iff, Bool.and_eq_false_iff, Bool.not_eq_true', Bool.not_eq_false', decide_eq_true_eq, decide_eq_false_iff_not, beq_iff_eq, bne_iff_ne, List.length_map, List.length_take] at hc2; omega))) ?_
      refine sq_plain rfl rfl rfl (w_move rfl (ev_tmp rfl)) ?_
      refine sq_nil ?_
      refine round_end2 j u (j + 1) (x29) ?_ ?_ (Le.trans (le_pick [1, 0] rfl) (le_dropeq 1 (by exact congrArg (fun z => [Own.arr _ 9 1 (List.map (fun s => [AV.str s]) z)]) (by rw [List.take_add_one, hx]; simp only [wKeys, List.map_append, ← List.append_assoc]; exact (putAllS_snoc _ _ _).symm)) ⟨rfl, rfl, rfl, rfl, rfl, trivial⟩))
      · omega
      · omega
    · intro h23
      have k23 := of_decide_eq_false h23; try simp only [List.length_map] at k23
      have hge : j = w.length := by omega
      rw [hge, List.take_length]
      refine awp_exit ?_
      refine awp_seq ?_
      refine awp_region ?_
      refine sq_plain rfl rfl rfl (w_move rfl (ev_tmp rfl)) ?_
      refine sq_plain rfl rfl rfl (w_assign rfl (ev_tmp rfl)) ?_
      refine sq_nil ?_
      refine awp_ret ?_
      exact retG [0] u (trivial) rfl (by rfl) (resR rfl (rv_tmp' rfl (by rfl)))
theorem keysS_own (r : TRec) (hs : r.size ≤ 1048576) : GSpec Tryz.prog 34 [AV.agg r.cs] [] (fun _ : Value => True) (fun v => [.arr v 9 1 ((keysR r).1.map fun s => [AV.str s])]) (fun v => AV.tup [AV.is v, AV.bool (keysR r).2]) := by
  refine gspec_of_awp Tryz.func34 rfl Tryz.ntmps34 rfl ?_
  refine awp_seq ?_
  refine awp_region ?_
  refine sq_box rfl rfl rfl rfl (ev_tmp rfl) ?_
  intro b1
  refine sq_plain rfl rfl rfl (w_assign rfl ev_cnils) ?_
  refine sq_plain rfl rfl rfl (w_assign rfl ev_cb) ?_
  refine sq_nil ?_
  refine awp_seq ?_
  refine awp_seq ?_
  refine awp_region ?_
  refine sq_plain rfl rfl rfl (w_loadA 0 rfl (ev_tmp rfl) rfl Tryz.isAgg37 Tryz.sizeOf37 rfl) ?_
  refine sq_plain rfl rfl rfl (w_call rfl Tryz.call56 rfl (l4Good_spec _ (by first | assumption | omega)) (evl_cons (ev_tmp rfl) evl_nil)) ?_
  refine sq_plain rfl rfl rfl (w_not rfl (ev_tmp rfl)) ?_
  refine sq_nil ?_
  refine awp_cond (ev_tmp rfl) ?_ ?_
  · intro h6
    have he : keysR r = ([], false) := if_neg (by rw [goodRec_eq]; simpa using h6)
    rw [he]
    refine awp_seq ?_
    refine awp_region ?_
    refine sq_plain rfl rfl rfl (w_assign rfl ev_cnils) ?_
    refine sq_plain rfl rfl rfl (w_assign rfl ev_cb) ?_
    refine sq_nil ?_
    refine awp_ret ?_
    refine retG_nil 9 1 ?_
    exact retG [0] (Value.slice none 0 0) (trivial) rfl (by rfl) (resN rfl (by decide) (rv_cons (rv_tmp' rfl (by rfl)) (rv_cons (rv_tmp' rfl (by rfl)) rv_nil)))
  · intro h6
    have hg : goodRec r = true := by (rw [goodRec_eq]; simpa using h6)
    have he : keysR r = (putAllS (r.Reads ++ wKeys r.Writes) [], true) := by (rw [← keys_same]; exact if_pos hg)
    rw [he]
    have h8 := (goodR hg).reads.1
    have h9 := (goodR hg).writes.1
    refine awp_skip ?_
    refine awp_seq ?_
    refine awp_region ?_
    refine sq_plain rfl rfl rfl (w_fldBn 4 rfl Tryz.underlying37 rfl Tryz.sizeOf34 (ev_tmp rfl) rfl) ?_
    refine sq_plain rfl rfl rfl (w_loadB1 0 rfl (ev_tmp rfl) rfl Tryz.isAgg34 rfl) ?_
    refine sq_plain rfl rfl rfl (w_fldBn 5 rfl Tryz.underlying37 rfl Tryz.sizeOf35 (ev_tmp rfl) rfl) ?_
    refine sq_plain rfl rfl rfl (w_loadB1 0 rfl (ev_tmp rfl) rfl Tryz.isAgg35 rfl) ?_
    refine sq_callG [] rfl rfl rfl rfl Tryz.call91 rfl (l4KeysOf_own r.Reads r.Writes (by omega) (by omega)) (evl_cons (ev_tmp rfl) (evl_cons (ev_tmp rfl) evl_nil)) rfl ?_
    intro x11 ok11
    refine sq_plain rfl rfl rfl (w_assign rfl (ev_tmp rfl)) ?_
    refine sq_plain rfl rfl rfl (w_assign rfl ev_cb) ?_
    refine sq_nil ?_
    refine awp_ret ?_
    exact retG [0] x11 (trivial) rfl (by rfl) (resN rfl (by decide) (rv_cons (rv_tmp' rfl (by rfl)) (rv_cons (rv_tmp' rfl (by rfl)) rv_nil)))
end Go.Proofs.YtmlmmgeadombbaaGreatDoor

set_option linter.unusedVariables false
set_option linter.unusedSimpArgs false
set_option maxRecDepth 100000
namespace Go.M
open Go.AV
theorem spoil_a (t : Str) (i : Nat) (y : UInt8) : ((t.take i ++ [y]) ++ t.drop i).length = t.length + 1 := by
  simp only [List.length_append, List.length_cons, List.length_nil, List.length_take, List.length_drop]; omega
theorem spoil_b (t : Str) (i : Nat) (y : UInt8) : ((t.take i ++ [y]) ++ t.drop (i + 1)).length ≤ t.length + 1 := by
  simp only [List.length_append, List.length_cons, List.length_nil, List.length_take, List.length_drop]; omega
theorem spoil_c (t : Str) (i : Nat) : (t.take i ++ t.drop (i + 1)).length ≤ t.length + 1 := by
  simp only [List.length_append, List.length_take, List.length_drop]; omega
end Go.M
namespace Go.Proofs.YtmlmmgeadombbaaGreatDoor
open Go Go.AV Go.M
attribute [local irreducible] OpW OpA OpS AWP FSpec ESpec GSpec OpE RetOk RetOkG RvDen Le Ev GuardIs SrcIs Int.tmod Int.tdiv IntKind.wrap bandI
theorem curSpoilt_own (b : Nat) (code : List Int) (hcode : ByteL code) (c : TCur) (t w : Str) (ht : t.length ≤ 500000) (hw : 1 ≤ w.length ∧ w.length ≤ 1000) (hp : c.p ≤ 5000000) : GSpec Tryz.prog 49 [AV.ptr b 0, AV.str t, AV.str w] [.box b 61 (curC code c)] (fun x : TCur × Str => x.1.p ≤ c.p + 20 ∧ x.2.length ≤ t.length + 2) (fun x => [.box b 61 (curC code x.1)]) (fun x => AV.str x.2) := by
  refine gspec_of_awp Tryz.func49 rfl Tryz.ntmps49 rfl ?_
  refine awp_seq ?_
  refine awp_region ?_
  refine sq_plain rfl rfl rfl (w_assign rfl (ev_cs' (l := []) rfl)) ?_
  refine sq_nil ?_
  refine awp_seq ?_
  refine awp_seq ?_
  refine awp_region ?_
  refine sq_plain rfl rfl rfl (w_move rfl (ev_tmp rfl)) ?_
  refine sq_callG [0] rfl rfl rfl rfl Tryz.call77 rfl (curPick_own _ _ hcode _ _ (by omega) (by omega)) (evl_cons (ev_tmp rfl) (evl_cons ev_ci evl_nil)) rfl ?_
  intro x11 ok11
  refine sq_plain rfl rfl rfl (w_addi rfl ev_ci (ev_tmp rfl) (by first | omega | ((try simp only [List.length_map, List.length_take, List.length_cons, List.length_nil, chunks_len, szR] at *); omega) | (have hc2 := hc; simp only [Bool.and_eq_true, Bool.or_eq_true, Bool.or_eq_false_iff, Bool.and_eq_false_iff, Bool.not_eq_true', Bool.not_eq_false', decide_eq_true_eq, decide_eq_false_iff_not, beq_iff_eq, bne_iff_ne, List.length_map, List.length_take] at hc2; omega))) ?_
  refine sq_plain rfl rfl rfl (w_assign rfl (ev_tmp rfl)) ?_
  refine sq_nil ?_
  refine awp_block ?_
  refine awp_loop_i3 [(0, _), (2, _), (6, _)] _ (fun (n : Int) (cc : TCur) (u : Str) => (0 ≤ n ∧ n ≤ 2) ∧ cc.p + 6 * n ≤ c.p + 16 ∧ (u.length : Int) + n ≤ t.length + 2) (fun (n : Int) (cc : TCur) (u : Str) => [.box b 61 (curC code cc)]) (fun (n : Int) (cc : TCur) (u : Str) => [(1, AV.str u), (7, AV.int n)]) (fun (n : Int) (cc : TCur) (u : Str) => n.toNat) (1 + x11.2) (x11.1) (t) ?_ (le_eq (by rfl) ⟨rfl, rfl, rfl, rfl, rfl, trivial⟩) ?_
  · exact ⟨by omega, by omega, by omega⟩
  intro n cc u hinv
  refine awp_seq ?_
  refine awp_seq ?_
  refine awp_region ?_
  refine sq_plain rfl rfl rfl (w_move rfl (ev_tmp rfl)) ?_
  refine sq_plain rfl rfl rfl (w_gtr rfl (ev_tmp rfl) ev_ci) ?_
  refine sq_plain rfl rfl rfl (w_move rfl (ev_tmp rfl)) ?_
  refine sq_grd rfl rfl (guard_t rfl rfl rfl) (fun hc => w_move rfl (ev_tmp rfl)) ?_
  refine sq_grd rfl rfl (guard_t rfl rfl rfl) (fun hc => w_slen rfl Tryz.underlying9 (ev_whn rfl hc)) ?_
  refine sq_grd rfl rfl (guard_t rfl rfl rfl) (fun hc => w_gtr rfl (ev_whn rfl hc) ev_ci) ?_
  refine sq_plain rfl rfl rfl (w_and rfl (ev_tmp rfl) (evif_w rfl)) ?_
  refine sq_nil ?_
  refine awp_cond (ev_tmp rfl) ?_ ?_
  · intro h19
    simp only [Bool.and_eq_true, decide_eq_true_eq] at h19
    obtain ⟨hn0, hu0⟩ := h19
    refine awp_skip ?_
    refine awp_seq ?_
    refine awp_block ?_
    refine awp_seq ?_
    refine awp_region ?_
    refine sq_plain rfl rfl rfl (w_move rfl (ev_tmp rfl)) ?_
    refine sq_plain rfl rfl rfl (w_move rfl (ev_tmp rfl)) ?_
    refine sq_plain rfl rfl rfl (w_slen rfl Tryz.underlying9 (ev_tmp rfl)) ?_
    refine sq_callG [0] rfl rfl rfl rfl Tryz.call77 rfl (curPick_own _ _ hcode _ _ (by omega) (by omega)) (evl_cons (ev_tmp rfl) (evl_cons (ev_tmp rfl) evl_nil)) rfl ?_
    intro x25 ok25
    refine sq_plain rfl rfl rfl (w_assign rfl (ev_tmp rfl)) ?_
    refine sq_nil ?_
    refine awp_seq ?_
    refine awp_region ?_
    refine sq_plain rfl rfl rfl (w_move rfl (ev_tmp rfl)) ?_
    refine sq_plain rfl rfl rfl (w_move rfl (ev_tmp rfl)) ?_
    refine sq_plain rfl rfl rfl (w_move rfl (ev_tmp rfl)) ?_
    refine sq_plain rfl rfl rfl (w_slen rfl Tryz.underlying9 (ev_tmp rfl)) ?_
    refine sq_callG [0] rfl rfl rfl rfl Tryz.call77 rfl (curPick_own _ _ hcode _ _ (by omega) (by omega)) (evl_cons (ev_tmp rfl) (evl_cons (ev_tmp rfl) evl_nil)) rfl ?_
    intro x30 ok30
    obtain ⟨y, hy⟩ := get_some (show x30.2.toNat < w.length by omega)
    refine sq_plain rfl rfl rfl (w_sidx rfl Tryz.underlying9 (ev_tmp rfl) (ev_tmp rfl) (by omega) hy) ?_
    refine sq_plain rfl rfl rfl (w_bslice rfl Tryz.underlying22 Tryz.sizeOf5 Tryz.zeroValue5 rfl rfl rfl rfl (bp_cons (ev_tmp rfl) (as_ik _ _) bp_nil) rfl rfl) ?_
    refine sq_plain rfl rfl rfl (w_convB (bs := [y]) rfl Tryz.underlying22 Tryz.underlying5 Tryz.underlying9 (ev_tmp rfl)) ?_
    refine sq_plain rfl rfl rfl (w_assign rfl (ev_tmp rfl)) ?_
    refine sq_nil ?_
    refine awp_seq ?_
    refine awp_region ?_
    refine sq_plain rfl rfl rfl (w_move rfl (ev_tmp rfl)) ?_
    refine sq_callG [0] rfl rfl rfl rfl Tryz.call77 rfl (curPick_own _ _ hcode _ _ (by omega) (by omega)) (evl_cons (ev_tmp rfl) (evl_cons ev_ci evl_nil)) rfl ?_
    intro x35 ok35
    refine sq_nil ?_
    refine awp_block ?_
    refine awp_seq ?_
    refine awp_region ?_
    refine sq_plain rfl rfl rfl (w_eql rfl (ev_tmp rfl) ev_ci) ?_
    refine sq_plain rfl rfl rfl (w_assign rfl (ev_tmp rfl)) ?_
    refine sq_nil ?_
    refine awp_cond (ev_tmp rfl) ?_ ?_
    · intro h44
      have k44 := eq_of_beqt h44; try simp only [List.length_map] at k44
      refine awp_region_any (by kernel_rfl) (by kernel_rfl) rfl ?_
      refine ch_plain rfl rfl (w_move rfl (ev_tmp rfl)) ?_
      refine ch_plain rfl rfl (w_move rfl (ev_tmp rfl)) ?_
      refine ch_plain rfl rfl (w_ssl_hi rfl Tryz.underlying9 (ev_tmp rfl) (ev_tmp rfl) (by first | omega | ((try simp only [List.length_map, List.length_take, List.length_cons, List.length_nil, chunks_len, szR] at *); omega) | (have hc2 := hc; simp only [Bool.and_eq_true, Bool.or_eq_true, Bool.or_eq_false_iff, Bool.and_eq_false_iff, Bool.not_eq_true', Bool.not_eq_false', decide_eq_true_eq, decide_eq_false_iff_not, beq_iff_eq, bne_iff_ne, List.length_map, List.length_take] at hc2; omega)) (by first | omega | ((try simp only [List.length_map, List.length_take, List.length_cons, List.length_nil, chunks_len, szR] at *); omega) | (have hc2 := hc; simp only [Bool.and_eq_true, Bool.or_eq_true, Bool.or_eq_false_iff, Bool.and_eq_false_iff, Bool.not_eq_true', Bool.not_eq_false', decide_eq_true_eq, decide_eq_false_iff_not, beq_iff_eq, bne_iff_ne, List.length_map, List.length_take] at hc2; omega))) ?_
      refine ch_plain rfl rfl (w_move rfl (ev_tmp rfl)) ?_
      refine ch_plain rfl rfl (w_cat rfl (ev_tmp rfl) (ev_tmp rfl) (by first | omega | (simp only [List.length_append, List.length_take, List.length_drop, List.length_cons, List.length_nil]; omega))) ?_
      refine ch_plain rfl rfl (w_move rfl (ev_tmp rfl)) ?_
      refine ch_plain rfl rfl (w_move rfl (ev_tmp rfl)) ?_
      refine ch_plain rfl rfl (w_ssl_lo rfl Tryz.underlying9 (ev_tmp rfl) (ev_tmp rfl) (by first | omega | ((try simp only [List.length_map, List.length_take, List.length_cons, List.length_nil, chunks_len, szR] at *); omega) | (have hc2 := hc; simp only [Bool.and_eq_true, Bool.or_eq_true, Bool.or_eq_false_iff, Bool.and_eq_false_iff, Bool.not_eq_true', Bool.not_eq_false', decide_eq_true_eq, decide_eq_false_iff_not, beq_iff_eq, bne_iff_ne, List.length_map, List.length_take] at hc2; omega)) (by first | omega | ((try simp only [List.length_map, List.length_take, List.length_cons, List.length_nil, chunks_len, szR] at *); omega) | (have hc2 := hc; simp only [Bool.and_eq_true, Bool.or_eq_true, Bool.or_eq_false_iff, Bool.and_eq_false_iff, Bool.not_eq_true', Bool.not_eq_false', decide_eq_true_eq, decide_eq_false_iff_not, beq_iff_eq, bne_iff_ne, List.length_map, List.length_take] at hc2; omega))) ?_
      refine ch_plain rfl rfl (w_cat rfl (ev_tmp rfl) (ev_tmp rfl) (by first | omega | (simp only [List.length_append, List.length_take, List.length_drop, List.length_cons, List.length_nil]; omega))) ?_
      refine ch_plain rfl rfl (w_assign rfl (ev_tmp rfl)) ?_
      refine ch_nil ?_
      refine awp_region ?_
      refine sq_plain rfl rfl rfl (w_move rfl (ev_tmp rfl)) ?_
      refine sq_plain rfl rfl rfl (w_subi rfl (ev_tmp rfl) ev_ci (by first | omega | ((try simp only [List.length_map, List.length_take, List.length_cons, List.length_nil, chunks_len, szR] at *); omega) | (have hc2 := hc; simp only [Bool.and_eq_true, Bool.or_eq_true, Bool.or_eq_false_iff, Bool.and_eq_false_iff, Bool.not_eq_true', Bool.not_eq_false', decide_eq_true_eq, decide_eq_false_iff_not, beq_iff_eq, bne_iff_ne, List.length_map, List.length_take] at hc2; omega))) ?_
      refine sq_plain rfl rfl rfl (w_assign rfl (ev_tmp rfl)) ?_
      refine sq_nil ?_
      refine round_end3 n cc u (n - 1) (x35.1) ((u.take x25.2.toNat ++ [y]) ++ u.drop x25.2.toNat) ?_ ?_ (le_eq (by rfl) ⟨rfl, rfl, rfl, rfl, rfl, trivial⟩)
      · exact ⟨by omega, by omega, by (have := spoil_a u x25.2.toNat y; omega)⟩
      · omega
    · intro h44
      have k44 := ne_of_beqf h44; try simp only [List.length_map] at k44
      refine awp_seq ?_
      refine awp_region ?_
      refine sq_plain rfl rfl rfl (w_eql rfl (ev_tmp rfl) ev_ci) ?_
      refine sq_plain rfl rfl rfl (w_assign rfl (ev_tmp rfl)) ?_
      refine sq_nil ?_
      refine awp_cond (ev_tmp rfl) ?_ ?_
      · intro h55
        have k55 := eq_of_beqt h55; try simp only [List.length_map] at k55
        refine awp_region_any (by kernel_rfl) (by kernel_rfl) rfl ?_
        refine ch_plain rfl rfl (w_move rfl (ev_tmp rfl)) ?_
        refine ch_plain rfl rfl (w_move rfl (ev_tmp rfl)) ?_
        refine ch_plain rfl rfl (w_ssl_hi rfl Tryz.underlying9 (ev_tmp rfl) (ev_tmp rfl) (by first | omega | ((try simp only [List.length_map, List.length_take, List.length_cons, List.length_nil, chunks_len, szR] at *); omega) | (have hc2 := hc; simp only [Bool.and_eq_true, Bool.or_eq_true, Bool.or_eq_false_iff, Bool.and_eq_false_iff, Bool.not_eq_true', Bool.not_eq_false', decide_eq_true_eq, decide_eq_false_iff_not, beq_iff_eq, bne_iff_ne, List.length_map, List.length_take] at hc2; omega)) (by first | omega | ((try simp only [List.length_map, List.length_take, List.length_cons, List.length_nil, chunks_len, szR] at *); omega) | (have hc2 := hc; simp only [Bool.and_eq_true, Bool.or_eq_true, Bool.or_eq_false_iff, Bool.and_eq_false_iff, Bool.not_eq_true', Bool.not_eq_false', decide_eq_true_eq, decide_eq_false_iff_not, beq_iff_eq, bne_iff_ne, List.length_map, List.length_take] at hc2; omega))) ?_
        refine ch_plain rfl rfl (w_move rfl (ev_tmp rfl)) ?_
        refine ch_plain rfl rfl (w_cat rfl (ev_tmp rfl) (ev_tmp rfl) (by first | omega | (simp only [List.length_append, List.length_take, List.length_drop, List.length_cons, List.length_nil]; omega))) ?_
        refine ch_plain rfl rfl (w_move rfl (ev_tmp rfl)) ?_
        refine ch_plain rfl rfl (w_move rfl (ev_tmp rfl)) ?_
        refine ch_plain rfl rfl (w_addi rfl (ev_tmp rfl) ev_ci (by first | omega | ((try simp only [List.length_map, List.length_take, List.length_cons, List.length_nil, chunks_len, szR] at *); omega) | (have hc2 := hc; simp only [Bool.and_eq_true, Bool.or_eq_true, Bool.or_eq_false_iff, Bool.and_eq_false_iff, Bool.not_eq_true', Bool.not_eq_false', decide_eq_true_eq, decide_eq_false_iff_not, beq_iff_eq, bne_iff_ne, List.length_map, List.length_take] at hc2; omega))) ?_
        refine ch_plain rfl rfl (w_ssl_lo rfl Tryz.underlying9 (ev_tmp rfl) (ev_tmp rfl) (by first | omega | ((try simp only [List.length_map, List.length_take, List.length_cons, List.length_nil, chunks_len, szR] at *); omega) | (have hc2 := hc; simp only [Bool.and_eq_true, Bool.or_eq_true, Bool.or_eq_false_iff, Bool.and_eq_false_iff, Bool.not_eq_true', Bool.not_eq_false', decide_eq_true_eq, decide_eq_false_iff_not, beq_iff_eq, bne_iff_ne, List.length_map, List.length_take] at hc2; omega)) (by first | omega | ((try simp only [List.length_map, List.length_take, List.length_cons, List.length_nil, chunks_len, szR] at *); omega) | (have hc2 := hc; simp only [Bool.and_eq_true, Bool.or_eq_true, Bool.or_eq_false_iff, Bool.and_eq_false_iff, Bool.not_eq_true', Bool.not_eq_false', decide_eq_true_eq, decide_eq_false_iff_not, beq_iff_eq, bne_iff_ne, List.length_map, List.length_take] at hc2; omega))) ?_
        refine ch_plain rfl rfl (w_cat rfl (ev_tmp rfl) (ev_tmp rfl) (by first | omega | (simp only [List.length_append, List.length_take, List.length_drop, List.length_cons, List.length_nil]; omega))) ?_
        refine ch_plain rfl rfl (w_assign rfl (ev_tmp rfl)) ?_
        refine ch_nil ?_
        refine awp_region ?_
        refine sq_plain rfl rfl rfl (w_move rfl (ev_tmp rfl)) ?_
        refine sq_plain rfl rfl rfl (w_subi rfl (ev_tmp rfl) ev_ci (by first | omega | ((try simp only [List.length_map, List.length_take, List.length_cons, List.length_nil, chunks_len, szR] at *); omega) | (have hc2 := hc; simp only [Bool.and_eq_true, Bool.or_eq_true, Bool.or_eq_false_iff, Bool.and_eq_false_iff, Bool.not_eq_true', Bool.not_eq_false', decide_eq_true_eq, decide_eq_false_iff_not, beq_iff_eq, bne_iff_ne, List.length_map, List.length_take] at hc2; omega))) ?_
        refine sq_plain rfl rfl rfl (w_assign rfl (ev_tmp rfl)) ?_
        refine sq_nil ?_
        refine round_end3 n cc u (n - 1) (x35.1) ((u.take x25.2.toNat ++ [y]) ++ u.drop (x25.2 + 1).toNat) ?_ ?_ (le_eq (by rfl) ⟨rfl, rfl, rfl, rfl, rfl, trivial⟩)
        · exact ⟨by omega, by omega, by (rw [show (x25.2 + 1).toNat = x25.2.toNat + 1 by omega]; have := spoil_b u x25.2.toNat y; omega)⟩
        · omega
      · intro h55
        have k55 := ne_of_beqf h55; try simp only [List.length_map] at k55
        refine awp_region_any (by kernel_rfl) (by kernel_rfl) rfl ?_
        refine ch_plain rfl rfl (w_move rfl (ev_tmp rfl)) ?_
        refine ch_plain rfl rfl (w_move rfl (ev_tmp rfl)) ?_
        refine ch_plain rfl rfl (w_ssl_hi rfl Tryz.underlying9 (ev_tmp rfl) (ev_tmp rfl) (by first | omega | ((try simp only [List.length_map, List.length_take, List.length_cons, List.length_nil, chunks_len, szR] at *); omega) | (have hc2 := hc; simp only [Bool.and_eq_true, Bool.or_eq_true, Bool.or_eq_false_iff, Bool.and_eq_false_iff, Bool.not_eq_true', Bool.not_eq_false', decide_eq_true_eq, decide_eq_false_iff_not, beq_iff_eq, bne_iff_ne, List.length_map, List.length_take] at hc2; omega)) (by first | omega | ((try simp only [List.length_map, List.length_take, List.length_cons, List.length_nil, chunks_len, szR] at *); omega) | (have hc2 := hc; simp only [Bool.and_eq_true, Bool.or_eq_true, Bool.or_eq_false_iff, Bool.and_eq_false_iff, Bool.not_eq_true', Bool.not_eq_false', decide_eq_true_eq, decide_eq_false_iff_not, beq_iff_eq, bne_iff_ne, List.length_map, List.length_take] at hc2; omega))) ?_
        refine ch_plain rfl rfl (w_move rfl (ev_tmp rfl)) ?_
        refine ch_plain rfl rfl (w_move rfl (ev_tmp rfl)) ?_
        refine ch_plain rfl rfl (w_addi rfl (ev_tmp rfl) ev_ci (by first | omega | ((try simp only [List.length_map, List.length_take, List.length_cons, List.length_nil, chunks_len, szR] at *); omega) | (have hc2 := hc; simp only [Bool.and_eq_true, Bool.or_eq_true, Bool.or_eq_false_iff, Bool.and_eq_false_iff, Bool.not_eq_true', Bool.not_eq_false', decide_eq_true_eq, decide_eq_false_iff_not, beq_iff_eq, bne_iff_ne, List.length_map, List.length_take] at hc2; omega))) ?_
        refine ch_plain rfl rfl (w_ssl_lo rfl Tryz.underlying9 (ev_tmp rfl) (ev_tmp rfl) (by first | omega | ((try simp only [List.length_map, List.length_take, List.length_cons, List.length_nil, chunks_len, szR] at *); omega) | (have hc2 := hc; simp only [Bool.and_eq_true, Bool.or_eq_true, Bool.or_eq_false_iff, Bool.and_eq_false_iff, Bool.not_eq_true', Bool.not_eq_false', decide_eq_true_eq, decide_eq_false_iff_not, beq_iff_eq, bne_iff_ne, List.length_map, List.length_take] at hc2; omega)) (by first | omega | ((try simp only [List.length_map, List.length_take, List.length_cons, List.length_nil, chunks_len, szR] at *); omega) | (have hc2 := hc; simp only [Bool.and_eq_true, Bool.or_eq_true, Bool.or_eq_false_iff, Bool.and_eq_false_iff, Bool.not_eq_true', Bool.not_eq_false', decide_eq_true_eq, decide_eq_false_iff_not, beq_iff_eq, bne_iff_ne, List.length_map, List.length_take] at hc2; omega))) ?_
        refine ch_plain rfl rfl (w_cat rfl (ev_tmp rfl) (ev_tmp rfl) (by first | omega | (simp only [List.length_append, List.length_take, List.length_drop, List.length_cons, List.length_nil]; omega))) ?_
        refine ch_plain rfl rfl (w_assign rfl (ev_tmp rfl)) ?_
        refine ch_nil ?_
        refine awp_region ?_
        refine sq_plain rfl rfl rfl (w_move rfl (ev_tmp rfl)) ?_
        refine sq_plain rfl rfl rfl (w_subi rfl (ev_tmp rfl) ev_ci (by first | omega | ((try simp only [List.length_map, List.length_take, List.length_cons, List.length_nil, chunks_len, szR] at *); omega) | (have hc2 := hc; simp only [Bool.and_eq_true, Bool.or_eq_true, Bool.or_eq_false_iff, Bool.and_eq_false_iff, Bool.not_eq_true', Bool.not_eq_false', decide_eq_true_eq, decide_eq_false_iff_not, beq_iff_eq, bne_iff_ne, List.length_map, List.length_take] at hc2; omega))) ?_
        refine sq_plain rfl rfl rfl (w_assign rfl (ev_tmp rfl)) ?_
        refine sq_nil ?_
        refine round_end3 n cc u (n - 1) (x35.1) (u.take x25.2.toNat ++ u.drop (x25.2 + 1).toNat) ?_ ?_ (le_eq (by rfl) ⟨rfl, rfl, rfl, rfl, rfl, trivial⟩)
        · exact ⟨by omega, by omega, by (rw [show (x25.2 + 1).toNat = x25.2.toNat + 1 by omega]; have := spoil_c u x25.2.toNat; omega)⟩
        · omega
  · intro h19
    refine awp_exit ?_
    refine awp_seq ?_
    refine awp_region ?_
    refine sq_plain rfl rfl rfl (w_move rfl (ev_tmp rfl)) ?_
    refine sq_plain rfl rfl rfl (w_assign rfl (ev_tmp rfl)) ?_
    refine sq_nil ?_
    refine awp_ret ?_
    (refine retG [0] ((cc, u)) ?_ rfl (by first | (dsimp only; rfl) | rfl) (resR rfl (rv_tmp' rfl (by rfl))); exact ⟨show cc.p ≤ _ by omega, show u.length ≤ _ by omega⟩)
end Go.Proofs.YtmlmmgeadombbaaGreatDoor

set_option linter.unusedVariables false
set_option linter.unusedSimpArgs false
set_option maxRecDepth 100000
set_option maxHeartbeats 1000000
namespace Go.Proofs.YtmlmmgeadombbaaGreatDoor
open Go Go.AV Go.M
attribute [local irreducible] OpW OpA OpS AWP FSpec ESpec GSpec OpE RetOk RetOkG RvDen Le Ev GuardIs SrcIs Int.tmod IntKind.wrap bandI
theorem curVal_own (b : Nat) (code : List Int) (hcode : ByteL code) (c : TCur) (hp : c.p ≤ 6000000) : GSpec Tryz.prog 150 [AV.ptr b 0] [.box b 61 (curC code c)] (fun x : TCur × Str => x.1.p ≤ c.p + 2 ∧ x.2.length ≤ 64) (fun x => [.box b 61 (curC code x.1)]) (fun x => AV.str x.2) := by
  refine gspec_of_awp Tryz.func150 rfl Tryz.ntmps150 rfl ?_
  refine awp_seq ?_
  refine awp_region ?_
  refine sq_plain rfl rfl rfl (w_assign rfl (ev_cs' (l := []) rfl)) ?_
  refine sq_nil ?_
  refine awp_seq ?_
  refine awp_region ?_
  refine sq_plain rfl rfl rfl (w_move rfl (ev_tmp rfl)) ?_
  refine sq_plain rfl rfl rfl (w_bslice rfl Tryz.underlying34 Tryz.sizeOf9 Tryz.zeroValue9 rfl rfl rfl rfl (bp_cons (ev_cs' (l := []) rfl) (as_str _) (bp_cons (ev_cs' (l := [49]) rfl) (as_str _) (bp_cons (ev_cs' (l := [55]) rfl) (as_str _) (bp_cons (ev_cs' (l := [49, 48]) rfl) (as_str _) (bp_cons (ev_cs' (l := [45, 51]) rfl) (as_str _) (bp_cons (ev_cs' (l := [120]) rfl) (as_str _) (bp_cons (ev_cs' (l := [97, 44, 98, 95, 99]) rfl) (as_str _) bp_nil))))))) rfl rfl) ?_
  refine sq_callG [0] rfl rfl rfl rfl Tryz.call52 rfl (curOf_own _ _ hcode _ ([[], [49], [55], [49, 48], [45, 51], [120], [97, 44, 98, 95, 99]] : List Str) (by decide) (by omega)) (evl_cons (ev_tmp rfl) (evl_cons (ev_tmp rfl) evl_nil)) rfl ?_
  intro x5 ok5
  refine sq_plain rfl rfl rfl (w_assign rfl (ev_tmp rfl)) ?_
  refine sq_nil ?_
  refine awp_ret ?_
  (refine retG [0] ((_, _)) ?_ rfl (by first | (dsimp only; rfl) | rfl) (resR rfl (rv_tmp' rfl (by rfl))); exact ok5)
theorem curWrite_own (b : Nat) (code : List Int) (hcode : ByteL code) (c : TCur) (key : Str) (hp : c.p ≤ 5000000) : GSpec Tryz.prog 157 [AV.ptr b 0, AV.str key] [.box b 61 (curC code c)] (fun x : TCur × TWrite => x.1.p ≤ c.p + 4 ∧ x.2.Key = key ∧ x.2.Val.length ≤ 64) (fun x => [.box b 61 (curC code x.1)]) (fun x => AV.agg x.2.cs) := by
  refine gspec_of_awp Tryz.func157 rfl Tryz.ntmps157 rfl ?_
  refine awp_seq ?_
  refine awp_region ?_
  refine sq_alloc rfl rfl rfl rfl Tryz.zeroValue79 rfl ?_
  intro b4
  refine sq_nil ?_
  refine awp_seq ?_
  refine awp_seq ?_
  refine awp_region ?_
  refine sq_plain rfl rfl rfl (w_move rfl (ev_tmp rfl)) ?_
  refine sq_callG [1] rfl rfl rfl rfl Tryz.call48 rfl (curOne_own _ _ hcode _ _ (by omega) (by omega)) (evl_cons (ev_tmp rfl) (evl_cons ev_ci evl_nil)) rfl ?_
  intro x6 ok6
  refine sq_nil ?_
  refine awp_cond (ev_tmp rfl) ?_ ?_
  · intro h6
    refine awp_seq ?_
    refine awp_region ?_
    refine sq_plain rfl rfl rfl (w_move rfl (ev_tmp rfl)) ?_
    refine sq_plain rfl rfl rfl (w_build (places := #[(0, 1), (1, 1), (2, 1)]) rfl Tryz.underlying79 Tryz.zeroValue79 (fun w => by kernel_rfl) rfl (bp_cons (ev_tmp rfl) (as_str _) (bp_cons ev_cb (as_bool _) bp_nil)) rfl) ?_
    refine sq_storeB0 1 rfl rfl rfl (ev_tmp rfl) (ev_tmp rfl) (as_agg _) rfl Tryz.sizeOf79 rfl ?_
    refine sq_nil ?_
    refine awp_ret ?_
    (refine retG [0] ((_, ⟨_, _, _⟩)) ?_ rfl (by first | (dsimp only; rfl) | rfl) (resR rfl (rv_cell (ys := _) 1 rfl rfl Tryz.isAgg79 Tryz.sizeOf79 rfl)); (dsimp only; first | exact ⟨by omega, rfl, by simp⟩ | exact ⟨by omega, rfl, ok11.2⟩))
  · intro h6
    refine awp_skip ?_
    refine awp_seq ?_
    refine awp_region ?_
    refine sq_plain rfl rfl rfl (w_move rfl (ev_tmp rfl)) ?_
    refine sq_plain rfl rfl rfl (w_move rfl (ev_tmp rfl)) ?_
    refine sq_callG [0] rfl rfl rfl rfl Tryz.call150 rfl (curVal_own _ _ hcode _ (by omega)) (evl_cons (ev_tmp rfl) evl_nil) rfl ?_
    intro x11 ok11
    refine sq_plain rfl rfl rfl (w_build (places := #[(0, 1), (1, 1), (2, 1)]) rfl Tryz.underlying79 Tryz.zeroValue79 (fun w => by kernel_rfl) rfl (bp_cons (ev_tmp rfl) (as_str _) (bp_cons (ev_tmp rfl) (as_str _) bp_nil)) rfl) ?_
    refine sq_storeB0 1 rfl rfl rfl (ev_tmp rfl) (ev_tmp rfl) (as_agg _) rfl Tryz.sizeOf79 rfl ?_
    refine sq_nil ?_
    refine awp_ret ?_
    (refine retG [0] ((_, ⟨_, _, _⟩)) ?_ rfl (by first | (dsimp only; rfl) | rfl) (resR rfl (rv_cell (ys := _) 1 rfl rfl Tryz.isAgg79 Tryz.sizeOf79 rfl)); (dsimp only; first | exact ⟨by omega, rfl, by simp⟩ | exact ⟨by omega, rfl, ok11.2⟩))
def keysD : List Str := [[97], [98], [99], [105, 47, 120, 47, 49], [109], [110], [114, 47, 49], [122]]
theorem keysD_len {s : Str} {i : Nat} (h : keysD[i]? = some s) : s.length ≤ 5 := by
  have : ∀ s ∈ keysD, s.length ≤ 5 := by decide
  exact this s (List.mem_of_getElem? h)
theorem curWrites_own (b : Nat) (code : List Int) (hcode : ByteL code) (c : TCur) (hp : c.p ≤ 3000000) : GSpec Tryz.prog 128 [AV.ptr b 0] [.box b 61 (curC code c)] (fun x : TCur × List TWrite × Value => x.1.p ≤ c.p + 48 ∧ sizeL TWrite.size x.2.1 ≤ 560) (fun x => [.box b 61 (curC code x.1), .arr x.2.2 79 3 (x.2.1.map TWrite.cs)]) (fun x => AV.is x.2.2) := by
  refine gspec_of_awp Tryz.func128 rfl Tryz.ntmps128 rfl ?_
  refine awp_seq ?_
  refine awp_region ?_
  refine sq_plain rfl rfl rfl (w_assign rfl ev_cnils) ?_
  refine sq_nil ?_
  refine awp_seq ?_
  refine awp_region ?_
  refine sq_nilarr 79 3 rfl rfl rfl rfl ev_cnils ?_
  intro v3
  refine sq_nil ?_
  refine awp_seq ?_
  refine awp_seq ?_
  refine awp_region ?_
  refine sq_plain rfl rfl rfl (w_bslice rfl Tryz.underlying34 Tryz.sizeOf9 Tryz.zeroValue9 rfl rfl rfl rfl (bp_cons (ev_cs' (l := [97]) rfl) (as_str _) (bp_cons (ev_cs' (l := [98]) rfl) (as_str _) (bp_cons (ev_cs' (l := [99]) rfl) (as_str _) (bp_cons (ev_cs' (l := [105, 47, 120, 47, 49]) rfl) (as_str _) (bp_cons (ev_cs' (l := [109]) rfl) (as_str _) (bp_cons (ev_cs' (l := [110]) rfl) (as_str _) (bp_cons (ev_cs' (l := [114, 47, 49]) rfl) (as_str _) (bp_cons (ev_cs' (l := [122]) rfl) (as_str _) bp_nil)))))))) rfl rfl) ?_
  refine sq_plain rfl rfl rfl (w_llen rfl Tryz.underlying34 (ev_tmp rfl)) ?_
  refine sq_plain rfl rfl rfl (w_move rfl ev_ci) ?_
  refine sq_nil ?_
  refine awp_block ?_
  refine AWP.le (le_pick [1, 0] rfl) ?_
  refine awp_loop_i4 [(0, _), (2, _), (6, _), (7, _)] _ (fun (i : Nat) (cc : TCur) (l : List TWrite) (v : Value) => i ≤ 8 ∧ cc.p ≤ c.p + 6 * i ∧ sizeL TWrite.size l ≤ 70 * i) (fun (i : Nat) (cc : TCur) (l : List TWrite) (v : Value) => [.box b 61 (curC code cc), .arr v 79 3 (l.map TWrite.cs)]) (fun (i : Nat) (cc : TCur) (l : List TWrite) (v : Value) => [(3, AV.is v), (8, AV.int i)]) (fun (i : Nat) (cc : TCur) (l : List TWrite) (v : Value) => 8 - i) (0) (c) ([]) (v3) ?_ (le_eq (by rfl) ⟨rfl, rfl, rfl, rfl, rfl, rfl, trivial⟩) ?_
  · exact ⟨by omega, by omega, by simp [sizeL]⟩
  intro i cc l v hinv
  refine awp_seq ?_
  refine awp_region ?_
  refine sq_plain rfl rfl rfl (w_lss rfl (ev_tmp rfl) (ev_tmp rfl)) ?_
  refine sq_nil ?_
  refine awp_seq ?_
  refine awp_cond (ev_tmp rfl) ?_ ?_
  · intro h9
    have k9 := of_decide_eq_true h9; try simp only [List.length_map] at k9
    have hlt : i < 8 := by simp only [chunks_len] at k9; omega
    obtain ⟨y, hy⟩ := get_some (show i < keysD.length from hlt)
    have hyl := keysD_len hy
    have hyy : (keysD.map fun s => [AV.str s])[i]? = some [AV.str y] := by rw [List.getElem?_map, hy]; rfl
    have hll : l.length ≤ 560 := by have := sizeL_len (f := TWrite.size) (l := l); omega
    refine awp_skip ?_
    refine awp_seq ?_
    refine awp_block ?_
    refine awp_seq ?_
    refine awp_region ?_
    refine sq_plain rfl rfl rfl (w_idx rfl Tryz.underlying34 Tryz.sizeOf9 (ev_tmp rfl) (ev_tmp rfl) (by omega) (by rw [Int.toNat_natCast]; exact hyy)) ?_
    refine sq_plain rfl rfl rfl (w_loadE1 rfl (ev_tmp rfl) Tryz.isAgg9 rfl) ?_
    refine sq_plain rfl rfl rfl (w_assign rfl (ev_tmp rfl)) ?_
    refine sq_nil ?_
    refine awp_seq ?_
    refine awp_region ?_
    refine sq_plain rfl rfl rfl (w_move rfl (ev_tmp rfl)) ?_
    refine sq_callG [0] rfl rfl rfl rfl Tryz.call48 rfl (curOne_own _ _ hcode _ _ (by omega) (by omega)) (evl_cons (ev_tmp rfl) (evl_cons ev_ci evl_nil)) rfl ?_
    intro x13 ok13
    refine sq_nil ?_
    refine awp_cond (ev_tmp rfl) ?_ ?_
    · intro h13
      refine awp_region ?_
      refine sq_plain rfl rfl rfl (w_move rfl (ev_tmp rfl)) ?_
      refine sq_plain rfl rfl rfl (w_move rfl (ev_tmp rfl)) ?_
      refine sq_plain rfl rfl rfl (w_move rfl (ev_tmp rfl)) ?_
      refine sq_callG [0] rfl rfl rfl rfl Tryz.call157 rfl (curWrite_own _ _ hcode _ _ (by omega)) (evl_cons (ev_tmp rfl) (evl_cons (ev_tmp rfl) evl_nil)) rfl ?_
      intro x17 ok17
      refine sq_plain rfl rfl rfl (w_bslice rfl Tryz.underlying35 Tryz.sizeOf79 Tryz.zeroValue79 rfl rfl rfl rfl (bp_cons (ev_tmp rfl) (as_agg _) bp_nil) rfl rfl) ?_
      refine sq_append (by' := 40) 1 rfl rfl rfl rfl Tryz.underlying35 Tryz.type79 rfl rfl rfl rfl rfl rfl (ev_tmp rfl) (ev_tmp rfl) rfl (by first | omega | ((try simp only [List.length_map, List.length_take, List.length_cons, List.length_nil, chunks_len, szR] at *); omega) | (have hc2 := hc; simp only [Bool.and_eq_true, Bool.or_eq_true, Bool.or_eq_false_iff, Bool.and_eq_false_iff, Bool.not_eq_true', Bool.not_eq_false', decide_eq_true_eq, decide_eq_false_iff_not, beq_iff_eq, bne_iff_ne, List.length_map, List.length_take] at hc2; omega)) ?_
      intro v19_1
      refine sq_plain rfl rfl rfl (w_assign rfl (ev_tmp rfl)) ?_
      refine sq_nil ?_
      refine awp_region ?_
      refine sq_plain rfl rfl rfl (w_addi rfl (ev_tmp rfl) ev_ci (by first | omega | ((try simp only [List.length_map, List.length_take, List.length_cons, List.length_nil, chunks_len, szR] at *); omega) | (have hc2 := hc; simp only [Bool.and_eq_true, Bool.or_eq_true, Bool.or_eq_false_iff, Bool.and_eq_false_iff, Bool.not_eq_true', Bool.not_eq_false', decide_eq_true_eq, decide_eq_false_iff_not, beq_iff_eq, bne_iff_ne, List.length_map, List.length_take] at hc2; omega))) ?_
      refine sq_plain rfl rfl rfl (w_move rfl (ev_tmp rfl)) ?_
      refine sq_nil ?_
      refine round_end4 i cc l v (i + 1) (x17.1) (l ++ [x17.2]) (v19_1) ?_ ?_ (Le.trans (le_pick [0, 0] rfl) (le_eq (by first | rfl | (rw [List.map_append]; rfl)) ⟨rfl, rfl, rfl, rfl, rfl, rfl, trivial⟩))
      · exact ⟨by omega, by omega, by (have h9 : x17.2.size ≤ 69 := by unfold TWrite.size; rw [ok17.2.1]; omega); rw [show sizeL TWrite.size (l ++ [x17.2]) = sizeL TWrite.size l + x17.2.size + 1 from by unfold sizeL; simp; omega]; omega⟩
      · omega
    · intro h13
      refine awp_skip ?_
      refine awp_region ?_
      refine sq_plain rfl rfl rfl (w_addi rfl (ev_tmp rfl) ev_ci (by first | omega | ((try simp only [List.length_map, List.length_take, List.length_cons, List.length_nil, chunks_len, szR] at *); omega) | (have hc2 := hc; simp only [Bool.and_eq_true, Bool.or_eq_true, Bool.or_eq_false_iff, Bool.and_eq_false_iff, Bool.not_eq_true', Bool.not_eq_false', decide_eq_true_eq, decide_eq_false_iff_not, beq_iff_eq, bne_iff_ne, List.length_map, List.length_take] at hc2; omega))) ?_
      refine sq_plain rfl rfl rfl (w_move rfl (ev_tmp rfl)) ?_
      refine sq_nil ?_
      refine round_end4 i cc l v (i + 1) (x13.1) (l) (v) ?_ ?_ (Le.trans (le_pick [0, 0] rfl) (le_eq (by first | rfl | (rw [List.map_append]; rfl)) ⟨rfl, rfl, rfl, rfl, rfl, rfl, trivial⟩))
      · exact ⟨by omega, by omega, by omega⟩
      · omega
  · intro h9
    have k9 := of_decide_eq_false h9; try simp only [List.length_map] at k9
    refine awp_exit ?_
    refine awp_seq ?_
    refine awp_region ?_
    refine sq_plain rfl rfl rfl (w_move rfl (ev_tmp rfl)) ?_
    refine sq_plain rfl rfl rfl (w_assign rfl (ev_tmp rfl)) ?_
    refine sq_nil ?_
    refine awp_ret ?_
    (refine retG [0, 0] ((cc, l, v)) ?_ rfl (by first | (dsimp only; rfl) | rfl) (resR rfl (rv_tmp' rfl (by rfl))); exact ⟨show cc.p ≤ _ by omega, show sizeL TWrite.size l ≤ _ by omega⟩)
end Go.Proofs.YtmlmmgeadombbaaGreatDoor
