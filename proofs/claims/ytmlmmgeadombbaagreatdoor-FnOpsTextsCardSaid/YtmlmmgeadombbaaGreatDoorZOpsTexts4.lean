/- FnOpsTexts: for every drawn program and text, parsing inverts formatting and accepts no other text; the program answers what the reference answers. No condition. -/
import Derived.Test.YtmlmmgeadombbaaGreatDoorCards
import Derived.Test.YtmlmmgeadombbaaGreatDoorTie
import Derived.Lay
import Derived.SevenTiedAt
import Derived.Test.YtmlmmgeadombbaaGreatDoorZOpsTexts3

set_option linter.unusedVariables false
set_option linter.unusedSimpArgs false
set_option maxRecDepth 100000
set_option maxHeartbeats 2000000
namespace Go.M
open Go.AV
theorem kind_t {y u : Str} {k : Nat} (hu : opWs[k]? = some u) (h : (decide ((0 : Int) < (k : Int)) && (u == y)) = true) : (k : Int) = kindN y (k + 1) := by
  simp only [Bool.and_eq_true, decide_eq_true_eq, beq_iff_eq] at h
  unfold kindN
  rw [if_pos ⟨by omega, by rw [hu, h.2]⟩]
theorem kind_f {y u : Str} {k : Nat} (hu : opWs[k]? = some u) (h : (decide ((0 : Int) < (k : Int)) && (u == y)) = false) : kindN y k = kindN y (k + 1) := by
  conv => rhs; unfold kindN
  rw [if_neg]
  rintro ⟨h1, h2⟩
  rw [hu] at h2; injection h2 with h2; subst h2
  simp at h; omega
theorem opOfS_cs {w r : List Str} {y0 y1 y2 : Str} (hw : w = y0 :: r) (h1 : 1 < (y0 :: r).length → (y0 :: r)[1]? = some y1) (h2 : 2 < (y0 :: r).length → (y0 :: r)[2]? = some y2) : (opOfS w).cs = [AV.int (kindS y0), AV.str (if 1 < (y0 :: r).length then y1 else []), AV.str (if 2 < (y0 :: r).length ∧ hasValK (kindS y0) = true then y2 else []), AV.int (if 2 < (y0 :: r).length ∧ hasValK (kindS y0) = false then (l5N y2).1 else 0)] := by
  subst hw
  have e0 : (y0 :: r).getD 1 [] = if 1 < (y0 :: r).length then y1 else [] := by
    split
    · rename_i h; rw [List.getD_eq_getElem?_getD, h1 h]; rfl
    · rename_i h; rw [List.getD_eq_getElem?_getD, List.getElem?_eq_none (by omega)]; rfl
  have e : ∀ {b : Prop}, 2 < (y0 :: r).length ∧ b → (y0 :: r).getD 2 [] = y2 := fun h => by
    rw [List.getD_eq_getElem?_getD, h2 h.1]; rfl
  have e1 : (if 2 < (y0 :: r).length ∧ hasValK (kindS y0) = true then (y0 :: r).getD 2 [] else []) = if 2 < (y0 :: r).length ∧ hasValK (kindS y0) = true then y2 else [] := by
    split
    · rename_i h; exact e h
    · rfl
  have e2 : (if 2 < (y0 :: r).length ∧ hasValK (kindS y0) = false then (l5N ((y0 :: r).getD 2 [])).1 else 0) = if 2 < (y0 :: r).length ∧ hasValK (kindS y0) = false then (l5N y2).1 else 0 := by
    split
    · rename_i h; rw [e h]
    · rfl
  show [AV.int (kindS y0), AV.str ((y0 :: r).getD 1 []), AV.str (if 2 < (y0 :: r).length ∧ hasValK (kindS y0) = true then (y0 :: r).getD 2 [] else []), AV.int (if 2 < (y0 :: r).length ∧ hasValK (kindS y0) = false then (l5N ((y0 :: r).getD 2 [])).1 else 0)] = _
  rw [e0, e1, e2]
end Go.M
namespace Go.Proofs.YtmlmmgeadombbaaGreatDoor
open Go Go.AV Go.M
attribute [local irreducible] OpW OpA OpS AWP FSpec ESpec GSpec OpE RetOk RetOkG RvDen Le Ev GuardIs SrcIs Int.tmod Int.tdiv IntKind.wrap bandI
theorem l5ReadOp_spec (s : Str) (hs : s.length ≤ 1048576) : FSpec Tryz.prog 51 [AV.str s] (AV.agg (opOfS (splitC 32 s)).cs) := by
  obtain ⟨y0, r, hw⟩ : ∃ y0 r, splitC 32 s = y0 :: r := by
    cases h : splitC 32 s with
    | nil => exact absurd h (splitC_ne 32 s)
    | cons a b => exact ⟨a, b, rfl⟩
  obtain ⟨y1, hy1⟩ := get_any (y0 :: r) 1
  obtain ⟨y2, hy2⟩ := get_any (y0 :: r) 2
  have hcs := opOfS_cs hw hy1 hy2
  rw [hw] at hcs
  have hvT : (kindS y0 = 2 ∨ kindS y0 = 7) → hasValK (kindS y0) = true := fun h => by unfold hasValK; rcases h with h | h <;> rw [h] <;> rfl
  have hvF : ¬ (kindS y0 = 2 ∨ kindS y0 = 7) → hasValK (kindS y0) = false := fun h => by
    unfold hasValK
    rw [Bool.or_eq_false_iff]
    exact ⟨by simp; omega, by simp; omega⟩
  have hy2l : 2 < (y0 :: r).length → y2.length ≤ s.length := fun h9 => splitC_len (c := 32) (by rw [hw]; exact List.mem_of_getElem? (hy2 h9))
  have h8 : opWs.length = 8 := rfl
  refine spec_of_awp Tryz.func51 rfl Tryz.ntmps51 rfl ?_
  refine awp_seq ?_
  refine awp_region ?_
  refine sq_alloc rfl rfl rfl rfl Tryz.zeroValue55 rfl ?_
  intro b2
  refine sq_nil ?_
  refine awp_seq ?_
  refine awp_region ?_
  refine sq_plain rfl rfl rfl (w_move rfl (ev_tmp rfl)) ?_
  refine sq_plain rfl rfl rfl (w_call rfl Tryz.call50 rfl (l1Split_spec s 32 hs) (evl_cons (ev_tmp rfl) (evl_cons ev_ci evl_nil))) ?_
  refine sq_plain rfl rfl rfl (w_assign rfl (ev_tmp rfl)) ?_
  refine sq_nil ?_
  refine awp_seq ?_
  rw [hw]
  refine awp_region ?_
  refine sq_alloc rfl rfl rfl rfl Tryz.zeroValue55 rfl ?_
  intro b4
  refine sq_nil ?_
  refine awp_seq ?_
  refine awp_seq ?_
  refine awp_region ?_
  refine sq_plain rfl rfl rfl (w_call rfl Tryz.call99 rfl (l5Words_spec) evl_nil) ?_
  refine sq_plain rfl rfl rfl (w_llen rfl Tryz.underlying34 (ev_tmp rfl)) ?_
  refine sq_plain rfl rfl rfl (w_move rfl ev_ci) ?_
  refine sq_nil ?_
  refine awp_block ?_
  refine awp_loop_i2 [(2, _), (3, _), (4, _), (11, _), (12, _)] _ (fun (k : Nat) (d : Int) => k ≤ 8 ∧ d = kindN y0 k) (fun (k : Nat) (d : Int) => [.box b4 55 [AV.int d, AV.str [], AV.str [], AV.int 0]]) (fun (k : Nat) (d : Int) => [(13, AV.int k)]) (fun (k : Nat) (d : Int) => 8 - k) (0) (0) ?_ (le_eq (by rfl) ⟨rfl, rfl, rfl, rfl, rfl, rfl, trivial⟩) ?_
  · exact ⟨Nat.zero_le _, rfl⟩
  intro k d hinv
  refine awp_seq ?_
  refine awp_region ?_
  refine sq_plain rfl rfl rfl (w_lss rfl (ev_tmp rfl) (ev_tmp rfl)) ?_
  refine sq_nil ?_
  refine awp_seq ?_
  refine awp_cond (ev_tmp rfl) ?_ ?_
  · intro h14
    have k14 := of_decide_eq_true h14; try simp only [List.length_map] at k14
    have hlt : k < opWs.length := by omega
    obtain ⟨u, hu⟩ := get_some hlt
    refine awp_skip ?_
    refine awp_seq ?_
    refine awp_block ?_
    refine awp_seq ?_
    refine awp_region ?_
    refine sq_plain rfl rfl rfl (w_move rfl (ev_tmp rfl)) ?_
    refine sq_plain rfl rfl rfl (w_idxm rfl Tryz.underlying34 Tryz.sizeOf9 (ev_tmp rfl) (ev_tmp rfl) hu (by first | omega | ((try simp only [List.length_map, List.length_take, List.length_cons, List.length_nil, chunks_len, szR] at *); omega) | (have hc2 := hc; simp only [Bool.and_eq_true, Bool.or_eq_true, Bool.or_eq_false_iff, Bool.and_eq_false_iff, Bool.not_eq_true', Bool.not_eq_false', decide_eq_true_eq, decide_eq_false_iff_not, beq_iff_eq, bne_iff_ne, List.length_map, List.length_take] at hc2; omega))) ?_
    refine sq_plain rfl rfl rfl (w_loadE1 rfl (ev_tmp rfl) Tryz.isAgg9 rfl) ?_
    refine sq_plain rfl rfl rfl (w_assign rfl (ev_tmp rfl)) ?_
    refine sq_plain rfl rfl rfl (w_assign rfl (ev_tmp rfl)) ?_
    refine sq_nil ?_
    refine awp_seq ?_
    refine awp_region ?_
    refine sq_plain rfl rfl rfl (w_move rfl (ev_tmp rfl)) ?_
    refine sq_plain rfl rfl rfl (w_gtr rfl (ev_tmp rfl) ev_ci) ?_
    refine sq_plain rfl rfl rfl (w_move rfl (ev_tmp rfl)) ?_
    refine sq_grd rfl rfl (guard_t rfl rfl rfl) (fun hc => w_move rfl (ev_tmp rfl)) ?_
    refine sq_grd rfl rfl (guard_t rfl rfl rfl) (fun hc => w_move rfl (ev_tmp rfl)) ?_
    refine sq_grd rfl rfl (guard_t rfl rfl rfl) (fun hc => w_idxm rfl Tryz.underlying34 Tryz.sizeOf9 (ev_whn rfl hc) ev_ci (show (y0 :: r)[0]? = some y0 from rfl) (by first | omega | ((try simp only [List.length_map, List.length_take, List.length_cons, List.length_nil, chunks_len, szR] at *); omega) | (have hc2 := hc; simp only [Bool.and_eq_true, Bool.or_eq_true, Bool.or_eq_false_iff, Bool.and_eq_false_iff, Bool.not_eq_true', Bool.not_eq_false', decide_eq_true_eq, decide_eq_false_iff_not, beq_iff_eq, bne_iff_ne, List.length_map, List.length_take] at hc2; omega))) ?_
    refine sq_grd rfl rfl (guard_t rfl rfl rfl) (fun hc => w_loadE1 rfl (ev_whn rfl hc) Tryz.isAgg9 rfl) ?_
    refine sq_grd rfl rfl (guard_t rfl rfl rfl) (fun hc => w_seql rfl (ev_whn rfl hc) (ev_whn rfl hc)) ?_
    refine sq_plain rfl rfl rfl (w_and rfl (ev_tmp rfl) (evif_w rfl)) ?_
    refine sq_nil ?_
    refine awp_cond (ev_tmp rfl) ?_ ?_
    · intro h26
      refine awp_region ?_
      refine sq_plain rfl rfl rfl (w_move rfl (ev_tmp rfl)) ?_
      refine sq_plain rfl rfl rfl (w_fldBn 0 rfl Tryz.underlying55 rfl Tryz.sizeOf3 (ev_tmp rfl) rfl) ?_
      refine sq_storeB1 0 rfl rfl rfl (ev_tmp rfl) (ev_tmp rfl) (as_ik _ _) rfl Tryz.sizeOf3 rfl ?_
      refine sq_nil ?_
      refine awp_region ?_
      refine sq_plain rfl rfl rfl (w_addi rfl (ev_tmp rfl) ev_ci (by first | omega | ((try simp only [List.length_map, List.length_take, List.length_cons, List.length_nil, chunks_len, szR] at *); omega) | (have hc2 := hc; simp only [Bool.and_eq_true, Bool.or_eq_true, Bool.or_eq_false_iff, Bool.and_eq_false_iff, Bool.not_eq_true', Bool.not_eq_false', decide_eq_true_eq, decide_eq_false_iff_not, beq_iff_eq, bne_iff_ne, List.length_map, List.length_take] at hc2; omega))) ?_
      refine sq_plain rfl rfl rfl (w_move rfl (ev_tmp rfl)) ?_
      refine sq_nil ?_
      refine round_end2 k d (k + 1) (k) ?_ ?_ (le_eq (by rfl) ⟨rfl, rfl, rfl, rfl, rfl, rfl, trivial⟩)
      · exact ⟨by omega, kind_t hu h26⟩
      · omega
    · intro h26
      refine awp_skip ?_
      refine awp_region ?_
      refine sq_plain rfl rfl rfl (w_addi rfl (ev_tmp rfl) ev_ci (by first | omega | ((try simp only [List.length_map, List.length_take, List.length_cons, List.length_nil, chunks_len, szR] at *); omega) | (have hc2 := hc; simp only [Bool.and_eq_true, Bool.or_eq_true, Bool.or_eq_false_iff, Bool.and_eq_false_iff, Bool.not_eq_true', Bool.not_eq_false', decide_eq_true_eq, decide_eq_false_iff_not, beq_iff_eq, bne_iff_ne, List.length_map, List.length_take] at hc2; omega))) ?_
      refine sq_plain rfl rfl rfl (w_move rfl (ev_tmp rfl)) ?_
      refine sq_nil ?_
      refine round_end2 k d (k + 1) (d) ?_ ?_ (le_eq (by rfl) ⟨rfl, rfl, rfl, rfl, rfl, rfl, trivial⟩)
      · exact ⟨by omega, hinv.2.trans (kind_f hu h26)⟩
      · omega
  · intro h14
    have k14 := of_decide_eq_false h14; try simp only [List.length_map] at k14
    have hge : k = 8 := by omega
    have hd : d = kindS y0 := by (rw [hinv.2, hge]; rfl)
    subst hd
    refine awp_exit ?_
    refine awp_seq ?_
    refine awp_seq ?_
    refine awp_region ?_
    refine sq_plain rfl rfl rfl (w_move rfl (ev_tmp rfl)) ?_
    refine sq_plain rfl rfl rfl (w_llen rfl Tryz.underlying34 (ev_tmp rfl)) ?_
    refine sq_plain rfl rfl rfl (w_gtr rfl (ev_tmp rfl) ev_ci) ?_
    refine sq_nil ?_
    refine awp_cond (ev_tmp rfl) ?_ ?_
    · intro h32
      have k32 := of_decide_eq_true h32; try simp only [List.length_map] at k32
      have c1 : 1 < (y0 :: r).length := by omega
      refine awp_region ?_
      refine sq_plain rfl rfl rfl (w_move rfl (ev_tmp rfl)) ?_
      refine sq_plain rfl rfl rfl (w_idxm rfl Tryz.underlying34 Tryz.sizeOf9 (ev_tmp rfl) ev_ci (hy1 c1) (by first | omega | ((try simp only [List.length_map, List.length_take, List.length_cons, List.length_nil, chunks_len, szR] at *); omega) | (have hc2 := hc; simp only [Bool.and_eq_true, Bool.or_eq_true, Bool.or_eq_false_iff, Bool.and_eq_false_iff, Bool.not_eq_true', Bool.not_eq_false', decide_eq_true_eq, decide_eq_false_iff_not, beq_iff_eq, bne_iff_ne, List.length_map, List.length_take] at hc2; omega))) ?_
      refine sq_plain rfl rfl rfl (w_loadE1 rfl (ev_tmp rfl) Tryz.isAgg9 rfl) ?_
      refine sq_plain rfl rfl rfl (w_fldBn 1 rfl Tryz.underlying55 rfl Tryz.sizeOf9 (ev_tmp rfl) rfl) ?_
      refine sq_storeB1 0 rfl rfl rfl (ev_tmp rfl) (ev_tmp rfl) (as_str _) rfl Tryz.sizeOf9 rfl ?_
      refine sq_nil ?_
      refine awp_seq ?_
      refine awp_seq ?_
      refine awp_region ?_
      refine sq_plain rfl rfl rfl (w_move rfl (ev_tmp rfl)) ?_
      refine sq_plain rfl rfl rfl (w_llen rfl Tryz.underlying34 (ev_tmp rfl)) ?_
      refine sq_plain rfl rfl rfl (w_gtr rfl (ev_tmp rfl) ev_ci) ?_
      refine sq_nil ?_
      refine awp_cond (ev_tmp rfl) ?_ ?_
      · intro h39
        have k39 := of_decide_eq_true h39; try simp only [List.length_map] at k39
        have c2 : 2 < (y0 :: r).length := by omega
        refine awp_seq ?_
        refine awp_region ?_
        refine sq_plain rfl rfl rfl (w_fldBn 0 rfl Tryz.underlying55 rfl Tryz.sizeOf3 (ev_tmp rfl) rfl) ?_
        refine sq_plain rfl rfl rfl (w_loadB1 0 rfl (ev_tmp rfl) rfl Tryz.isAgg3 rfl) ?_
        refine sq_nil ?_
        refine awp_block ?_
        refine awp_seq ?_
        refine awp_seq ?_
        refine awp_region ?_
        refine sq_plain rfl rfl rfl (w_eql rfl (ev_tmp rfl) ev_ci) ?_
        refine sq_plain rfl rfl rfl (w_assign rfl (ev_tmp rfl)) ?_
        refine sq_nil ?_
        refine awp_cond (ev_tmp rfl) ?_ ?_
        · intro h51
          have k51 := eq_of_beqt h51; try simp only [List.length_map] at k51
          refine awp_skip ?_
          refine awp_cond (ev_tmp rfl) ?_ ?_
          · intro h51
            have k51 := eq_of_beqt h51; try simp only [List.length_map] at k51
            refine awp_region ?_
            refine sq_plain rfl rfl rfl (w_move rfl (ev_tmp rfl)) ?_
            refine sq_plain rfl rfl rfl (w_idxm rfl Tryz.underlying34 Tryz.sizeOf9 (ev_tmp rfl) ev_ci (hy2 c2) (by first | omega | ((try simp only [List.length_map, List.length_take, List.length_cons, List.length_nil, chunks_len, szR] at *); omega) | (have hc2 := hc; simp only [Bool.and_eq_true, Bool.or_eq_true, Bool.or_eq_false_iff, Bool.and_eq_false_iff, Bool.not_eq_true', Bool.not_eq_false', decide_eq_true_eq, decide_eq_false_iff_not, beq_iff_eq, bne_iff_ne, List.length_map, List.length_take] at hc2; omega))) ?_
            refine sq_plain rfl rfl rfl (w_loadE1 rfl (ev_tmp rfl) Tryz.isAgg9 rfl) ?_
            refine sq_plain rfl rfl rfl (w_fldBn 2 rfl Tryz.underlying55 rfl Tryz.sizeOf9 (ev_tmp rfl) rfl) ?_
            refine sq_storeB1 0 rfl rfl rfl (ev_tmp rfl) (ev_tmp rfl) (as_str _) rfl Tryz.sizeOf9 rfl ?_
            refine sq_nil ?_
            refine awp_seq ?_
            refine awp_region ?_
            refine sq_plain rfl rfl rfl (w_loadA 0 rfl (ev_tmp rfl) rfl Tryz.isAgg55 Tryz.sizeOf55 rfl) ?_
            refine sq_storeB0 1 rfl rfl rfl (ev_tmp rfl) (ev_tmp rfl) (as_agg _) rfl Tryz.sizeOf55 rfl ?_
            refine sq_nil ?_
            refine awp_ret ?_
            exact retR rfl (rv_cell (ys := _) 1 rfl rfl Tryz.isAgg55 Tryz.sizeOf55 (by first | rfl | (first | (exfalso; omega) | (refine Eq.symm (hcs.trans ?_); (first | rw [if_pos c1] | rw [if_neg c1]); (first | (rw [if_neg (fun e => c2 e.1), if_neg (fun e => c2 e.1)]; first | done | rfl) | (rw [if_pos ⟨c2, hvT (by omega)⟩, if_neg (fun e => by have h9 := e.2; rw [hvT (by omega)] at h9; cases h9)]; first | done | rfl) | (rw [if_neg (fun e => by have h9 := e.2; rw [hvF (by omega)] at h9; cases h9), if_pos ⟨c2, hvF (by omega)⟩]; first | done | rfl))))))
          · intro h51
            have k51 := ne_of_beqf h51; try simp only [List.length_map] at k51
            refine awp_seq ?_
            refine awp_region ?_
            refine sq_plain rfl rfl rfl (w_move rfl (ev_tmp rfl)) ?_
            refine sq_plain rfl rfl rfl (w_idxm rfl Tryz.underlying34 Tryz.sizeOf9 (ev_tmp rfl) ev_ci (hy2 c2) (by first | omega | ((try simp only [List.length_map, List.length_take, List.length_cons, List.length_nil, chunks_len, szR] at *); omega) | (have hc2 := hc; simp only [Bool.and_eq_true, Bool.or_eq_true, Bool.or_eq_false_iff, Bool.and_eq_false_iff, Bool.not_eq_true', Bool.not_eq_false', decide_eq_true_eq, decide_eq_false_iff_not, beq_iff_eq, bne_iff_ne, List.length_map, List.length_take] at hc2; omega))) ?_
            refine sq_plain rfl rfl rfl (w_loadE1 rfl (ev_tmp rfl) Tryz.isAgg9 rfl) ?_
            refine sq_plain rfl rfl rfl (w_call rfl Tryz.call53 rfl (l5Num_spec y2 (by have h8 := hy2l c2; omega)) (evl_cons (ev_tmp rfl) evl_nil)) ?_
            refine sq_plain rfl rfl rfl (w_move rfl (ev_tmp rfl)) ?_
            refine sq_plain rfl rfl rfl (w_extract rfl (ev_tmp rfl) rfl) ?_
            refine sq_plain rfl rfl rfl (w_extract rfl (ev_tmp rfl) rfl) ?_
            refine sq_plain rfl rfl rfl (w_assign rfl (ev_tmp rfl)) ?_
            refine sq_plain rfl rfl rfl (w_assign rfl (ev_tmp rfl)) ?_
            refine sq_nil ?_
            refine awp_region ?_
            refine sq_plain rfl rfl rfl (w_move rfl (ev_tmp rfl)) ?_
            refine sq_plain rfl rfl rfl (w_fldBn 3 rfl Tryz.underlying55 rfl Tryz.sizeOf3 (ev_tmp rfl) rfl) ?_
            refine sq_storeB1 0 rfl rfl rfl (ev_tmp rfl) (ev_tmp rfl) (as_ik _ _) rfl Tryz.sizeOf3 rfl ?_
            refine sq_nil ?_
            refine awp_seq ?_
            refine awp_region ?_
            refine sq_plain rfl rfl rfl (w_loadA 0 rfl (ev_tmp rfl) rfl Tryz.isAgg55 Tryz.sizeOf55 rfl) ?_
            refine sq_storeB0 1 rfl rfl rfl (ev_tmp rfl) (ev_tmp rfl) (as_agg _) rfl Tryz.sizeOf55 rfl ?_
            refine sq_nil ?_
            refine awp_ret ?_
            exact retR rfl (rv_cell (ys := _) 1 rfl rfl Tryz.isAgg55 Tryz.sizeOf55 (by first | rfl | (first | (exfalso; omega) | (refine Eq.symm (hcs.trans ?_); (first | rw [if_pos c1] | rw [if_neg c1]); (first | (rw [if_neg (fun e => c2 e.1), if_neg (fun e => c2 e.1)]; first | done | rfl) | (rw [if_pos ⟨c2, hvT (by omega)⟩, if_neg (fun e => by have h9 := e.2; rw [hvT (by omega)] at h9; cases h9)]; first | done | rfl) | (rw [if_neg (fun e => by have h9 := e.2; rw [hvF (by omega)] at h9; cases h9), if_pos ⟨c2, hvF (by omega)⟩]; first | done | rfl))))))
        · intro h51
          have k51 := ne_of_beqf h51; try simp only [List.length_map] at k51
          refine awp_region ?_
          refine sq_plain rfl rfl rfl (w_eql rfl (ev_tmp rfl) ev_ci) ?_
          refine sq_plain rfl rfl rfl (w_assign rfl (ev_tmp rfl)) ?_
          refine sq_nil ?_
          refine awp_cond (ev_tmp rfl) ?_ ?_
          · intro h51
            have k51 := eq_of_beqt h51; try simp only [List.length_map] at k51
            refine awp_region ?_
            refine sq_plain rfl rfl rfl (w_move rfl (ev_tmp rfl)) ?_
            refine sq_plain rfl rfl rfl (w_idxm rfl Tryz.underlying34 Tryz.sizeOf9 (ev_tmp rfl) ev_ci (hy2 c2) (by first | omega | ((try simp only [List.length_map, List.length_take, List.length_cons, List.length_nil, chunks_len, szR] at *); omega) | (have hc2 := hc; simp only [Bool.and_eq_true, Bool.or_eq_true, Bool.or_eq_false_iff, Bool.and_eq_false_iff, Bool.not_eq_true', Bool.not_eq_false', decide_eq_true_eq, decide_eq_false_iff_not, beq_iff_eq, bne_iff_ne, List.length_map, List.length_take] at hc2; omega))) ?_
            refine sq_plain rfl rfl rfl (w_loadE1 rfl (ev_tmp rfl) Tryz.isAgg9 rfl) ?_
            refine sq_plain rfl rfl rfl (w_fldBn 2 rfl Tryz.underlying55 rfl Tryz.sizeOf9 (ev_tmp rfl) rfl) ?_
            refine sq_storeB1 0 rfl rfl rfl (ev_tmp rfl) (ev_tmp rfl) (as_str _) rfl Tryz.sizeOf9 rfl ?_
            refine sq_nil ?_
            refine awp_seq ?_
            refine awp_region ?_
            refine sq_plain rfl rfl rfl (w_loadA 0 rfl (ev_tmp rfl) rfl Tryz.isAgg55 Tryz.sizeOf55 rfl) ?_
            refine sq_storeB0 1 rfl rfl rfl (ev_tmp rfl) (ev_tmp rfl) (as_agg _) rfl Tryz.sizeOf55 rfl ?_
            refine sq_nil ?_
            refine awp_ret ?_
            exact retR rfl (rv_cell (ys := _) 1 rfl rfl Tryz.isAgg55 Tryz.sizeOf55 (by first | rfl | (first | (exfalso; omega) | (refine Eq.symm (hcs.trans ?_); (first | rw [if_pos c1] | rw [if_neg c1]); (first | (rw [if_neg (fun e => c2 e.1), if_neg (fun e => c2 e.1)]; first | done | rfl) | (rw [if_pos ⟨c2, hvT (by omega)⟩, if_neg (fun e => by have h9 := e.2; rw [hvT (by omega)] at h9; cases h9)]; first | done | rfl) | (rw [if_neg (fun e => by have h9 := e.2; rw [hvF (by omega)] at h9; cases h9), if_pos ⟨c2, hvF (by omega)⟩]; first | done | rfl))))))
          · intro h51
            have k51 := ne_of_beqf h51; try simp only [List.length_map] at k51
            refine awp_seq ?_
            refine awp_region ?_
            refine sq_plain rfl rfl rfl (w_move rfl (ev_tmp rfl)) ?_
            refine sq_plain rfl rfl rfl (w_idxm rfl Tryz.underlying34 Tryz.sizeOf9 (ev_tmp rfl) ev_ci (hy2 c2) (by first | omega | ((try simp only [List.length_map, List.length_take, List.length_cons, List.length_nil, chunks_len, szR] at *); omega) | (have hc2 := hc; simp only [Bool.and_eq_true, Bool.or_eq_true, Bool.or_eq_false_iff, Bool.and_eq_false_iff, Bool.not_eq_true', Bool.not_eq_false', decide_eq_true_eq, decide_eq_false_iff_not, beq_iff_eq, bne_iff_ne, List.length_map, List.length_take] at hc2; omega))) ?_
            refine sq_plain rfl rfl rfl (w_loadE1 rfl (ev_tmp rfl) Tryz.isAgg9 rfl) ?_
            refine sq_plain rfl rfl rfl (w_call rfl Tryz.call53 rfl (l5Num_spec y2 (by have h8 := hy2l c2; omega)) (evl_cons (ev_tmp rfl) evl_nil)) ?_
            refine sq_plain rfl rfl rfl (w_move rfl (ev_tmp rfl)) ?_
            refine sq_plain rfl rfl rfl (w_extract rfl (ev_tmp rfl) rfl) ?_
            refine sq_plain rfl rfl rfl (w_extract rfl (ev_tmp rfl) rfl) ?_
            refine sq_plain rfl rfl rfl (w_assign rfl (ev_tmp rfl)) ?_
            refine sq_plain rfl rfl rfl (w_assign rfl (ev_tmp rfl)) ?_
            refine sq_nil ?_
            refine awp_region ?_
            refine sq_plain rfl rfl rfl (w_move rfl (ev_tmp rfl)) ?_
            refine sq_plain rfl rfl rfl (w_fldBn 3 rfl Tryz.underlying55 rfl Tryz.sizeOf3 (ev_tmp rfl) rfl) ?_
            refine sq_storeB1 0 rfl rfl rfl (ev_tmp rfl) (ev_tmp rfl) (as_ik _ _) rfl Tryz.sizeOf3 rfl ?_
            refine sq_nil ?_
            refine awp_seq ?_
            refine awp_region ?_
            refine sq_plain rfl rfl rfl (w_loadA 0 rfl (ev_tmp rfl) rfl Tryz.isAgg55 Tryz.sizeOf55 rfl) ?_
            refine sq_storeB0 1 rfl rfl rfl (ev_tmp rfl) (ev_tmp rfl) (as_agg _) rfl Tryz.sizeOf55 rfl ?_
            refine sq_nil ?_
            refine awp_ret ?_
            exact retR rfl (rv_cell (ys := _) 1 rfl rfl Tryz.isAgg55 Tryz.sizeOf55 (by first | rfl | (first | (exfalso; omega) | (refine Eq.symm (hcs.trans ?_); (first | rw [if_pos c1] | rw [if_neg c1]); (first | (rw [if_neg (fun e => c2 e.1), if_neg (fun e => c2 e.1)]; first | done | rfl) | (rw [if_pos ⟨c2, hvT (by omega)⟩, if_neg (fun e => by have h9 := e.2; rw [hvT (by omega)] at h9; cases h9)]; first | done | rfl) | (rw [if_neg (fun e => by have h9 := e.2; rw [hvF (by omega)] at h9; cases h9), if_pos ⟨c2, hvF (by omega)⟩]; first | done | rfl))))))
      · intro h39
        have k39 := of_decide_eq_false h39; try simp only [List.length_map] at k39
        have c2 : ¬ 2 < (y0 :: r).length := by omega
        refine awp_skip ?_
        refine awp_seq ?_
        refine awp_region ?_
        refine sq_plain rfl rfl rfl (w_loadA 0 rfl (ev_tmp rfl) rfl Tryz.isAgg55 Tryz.sizeOf55 rfl) ?_
        refine sq_storeB0 1 rfl rfl rfl (ev_tmp rfl) (ev_tmp rfl) (as_agg _) rfl Tryz.sizeOf55 rfl ?_
        refine sq_nil ?_
        refine awp_ret ?_
        exact retR rfl (rv_cell (ys := _) 1 rfl rfl Tryz.isAgg55 Tryz.sizeOf55 (by first | rfl | (first | (exfalso; omega) | (refine Eq.symm (hcs.trans ?_); (first | rw [if_pos c1] | rw [if_neg c1]); (first | (rw [if_neg (fun e => c2 e.1), if_neg (fun e => c2 e.1)]; first | done | rfl) | (rw [if_pos ⟨c2, hvT (by omega)⟩, if_neg (fun e => by have h9 := e.2; rw [hvT (by omega)] at h9; cases h9)]; first | done | rfl) | (rw [if_neg (fun e => by have h9 := e.2; rw [hvF (by omega)] at h9; cases h9), if_pos ⟨c2, hvF (by omega)⟩]; first | done | rfl))))))
    · intro h32
      have k32 := of_decide_eq_false h32; try simp only [List.length_map] at k32
      have c1 : ¬ 1 < (y0 :: r).length := by omega
      refine awp_skip ?_
      refine awp_seq ?_
      refine awp_seq ?_
      refine awp_region ?_
      refine sq_plain rfl rfl rfl (w_move rfl (ev_tmp rfl)) ?_
      refine sq_plain rfl rfl rfl (w_llen rfl Tryz.underlying34 (ev_tmp rfl)) ?_
      refine sq_plain rfl rfl rfl (w_gtr rfl (ev_tmp rfl) ev_ci) ?_
      refine sq_nil ?_
      refine awp_cond (ev_tmp rfl) ?_ ?_
      · intro h39
        have k39 := of_decide_eq_true h39; try simp only [List.length_map] at k39
        have c2 : 2 < (y0 :: r).length := by omega
        refine awp_seq ?_
        refine awp_region ?_
        refine sq_plain rfl rfl rfl (w_fldBn 0 rfl Tryz.underlying55 rfl Tryz.sizeOf3 (ev_tmp rfl) rfl) ?_
        refine sq_plain rfl rfl rfl (w_loadB1 0 rfl (ev_tmp rfl) rfl Tryz.isAgg3 rfl) ?_
        refine sq_nil ?_
        refine awp_block ?_
        refine awp_seq ?_
        refine awp_seq ?_
        refine awp_region ?_
        refine sq_plain rfl rfl rfl (w_eql rfl (ev_tmp rfl) ev_ci) ?_
        refine sq_plain rfl rfl rfl (w_assign rfl (ev_tmp rfl)) ?_
        refine sq_nil ?_
        refine awp_cond (ev_tmp rfl) ?_ ?_
        · intro h51
          have k51 := eq_of_beqt h51; try simp only [List.length_map] at k51
          refine awp_skip ?_
          refine awp_cond (ev_tmp rfl) ?_ ?_
          · intro h51
            have k51 := eq_of_beqt h51; try simp only [List.length_map] at k51
            refine awp_region ?_
            refine sq_plain rfl rfl rfl (w_move rfl (ev_tmp rfl)) ?_
            refine sq_plain rfl rfl rfl (w_idxm rfl Tryz.underlying34 Tryz.sizeOf9 (ev_tmp rfl) ev_ci (hy2 c2) (by first | omega | ((try simp only [List.length_map, List.length_take, List.length_cons, List.length_nil, chunks_len, szR] at *); omega) | (have hc2 := hc; simp only [Bool.and_eq_true, Bool.or_eq_true, Bool.or_eq_false_iff, Bool.and_eq_false_iff, Bool.not_eq_true', Bool.not_eq_false', decide_eq_true_eq, decide_eq_false_iff_not, beq_iff_eq, bne_iff_ne, List.length_map, List.length_take] at hc2; omega))) ?_
            refine sq_plain rfl rfl rfl (w_loadE1 rfl (ev_tmp rfl) Tryz.isAgg9 rfl) ?_
            refine sq_plain rfl rfl rfl (w_fldBn 2 rfl Tryz.underlying55 rfl Tryz.sizeOf9 (ev_tmp rfl) rfl) ?_
            refine sq_storeB1 0 rfl rfl rfl (ev_tmp rfl) (ev_tmp rfl) (as_str _) rfl Tryz.sizeOf9 rfl ?_
            refine sq_nil ?_
            refine awp_seq ?_
            refine awp_region ?_
            refine sq_plain rfl rfl rfl (w_loadA 0 rfl (ev_tmp rfl) rfl Tryz.isAgg55 Tryz.sizeOf55 rfl) ?_
            refine sq_storeB0 1 rfl rfl rfl (ev_tmp rfl) (ev_tmp rfl) (as_agg _) rfl Tryz.sizeOf55 rfl ?_
            refine sq_nil ?_
            refine awp_ret ?_
            exact retR rfl (rv_cell (ys := _) 1 rfl rfl Tryz.isAgg55 Tryz.sizeOf55 (by first | rfl | (first | (exfalso; omega) | (refine Eq.symm (hcs.trans ?_); (first | rw [if_pos c1] | rw [if_neg c1]); (first | (rw [if_neg (fun e => c2 e.1), if_neg (fun e => c2 e.1)]; first | done | rfl) | (rw [if_pos ⟨c2, hvT (by omega)⟩, if_neg (fun e => by have h9 := e.2; rw [hvT (by omega)] at h9; cases h9)]; first | done | rfl) | (rw [if_neg (fun e => by have h9 := e.2; rw [hvF (by omega)] at h9; cases h9), if_pos ⟨c2, hvF (by omega)⟩]; first | done | rfl))))))
          · intro h51
            have k51 := ne_of_beqf h51; try simp only [List.length_map] at k51
            refine awp_seq ?_
            refine awp_region ?_
            refine sq_plain rfl rfl rfl (w_move rfl (ev_tmp rfl)) ?_
            refine sq_plain rfl rfl rfl (w_idxm rfl Tryz.underlying34 Tryz.sizeOf9 (ev_tmp rfl) ev_ci (hy2 c2) (by first | omega | ((try simp only [List.length_map, List.length_take, List.length_cons, List.length_nil, chunks_len, szR] at *); omega) | (have hc2 := hc; simp only [Bool.and_eq_true, Bool.or_eq_true, Bool.or_eq_false_iff, Bool.and_eq_false_iff, Bool.not_eq_true', Bool.not_eq_false', decide_eq_true_eq, decide_eq_false_iff_not, beq_iff_eq, bne_iff_ne, List.length_map, List.length_take] at hc2; omega))) ?_
            refine sq_plain rfl rfl rfl (w_loadE1 rfl (ev_tmp rfl) Tryz.isAgg9 rfl) ?_
            refine sq_plain rfl rfl rfl (w_call rfl Tryz.call53 rfl (l5Num_spec y2 (by have h8 := hy2l c2; omega)) (evl_cons (ev_tmp rfl) evl_nil)) ?_
            refine sq_plain rfl rfl rfl (w_move rfl (ev_tmp rfl)) ?_
            refine sq_plain rfl rfl rfl (w_extract rfl (ev_tmp rfl) rfl) ?_
            refine sq_plain rfl rfl rfl (w_extract rfl (ev_tmp rfl) rfl) ?_
            refine sq_plain rfl rfl rfl (w_assign rfl (ev_tmp rfl)) ?_
            refine sq_plain rfl rfl rfl (w_assign rfl (ev_tmp rfl)) ?_
            refine sq_nil ?_
            refine awp_region ?_
            refine sq_plain rfl rfl rfl (w_move rfl (ev_tmp rfl)) ?_
            refine sq_plain rfl rfl rfl (w_fldBn 3 rfl Tryz.underlying55 rfl Tryz.sizeOf3 (ev_tmp rfl) rfl) ?_
            refine sq_storeB1 0 rfl rfl rfl (ev_tmp rfl) (ev_tmp rfl) (as_ik _ _) rfl Tryz.sizeOf3 rfl ?_
            refine sq_nil ?_
            refine awp_seq ?_
            refine awp_region ?_
            refine sq_plain rfl rfl rfl (w_loadA 0 rfl (ev_tmp rfl) rfl Tryz.isAgg55 Tryz.sizeOf55 rfl) ?_
            refine sq_storeB0 1 rfl rfl rfl (ev_tmp rfl) (ev_tmp rfl) (as_agg _) rfl Tryz.sizeOf55 rfl ?_
            refine sq_nil ?_
            refine awp_ret ?_
            exact retR rfl (rv_cell (ys := _) 1 rfl rfl Tryz.isAgg55 Tryz.sizeOf55 (by first | rfl | (first | (exfalso; omega) | (refine Eq.symm (hcs.trans ?_); (first | rw [if_pos c1] | rw [if_neg c1]); (first | (rw [if_neg (fun e => c2 e.1), if_neg (fun e => c2 e.1)]; first | done | rfl) | (rw [if_pos ⟨c2, hvT (by omega)⟩, if_neg (fun e => by have h9 := e.2; rw [hvT (by omega)] at h9; cases h9)]; first | done | rfl) | (rw [if_neg (fun e => by have h9 := e.2; rw [hvF (by omega)] at h9; cases h9), if_pos ⟨c2, hvF (by omega)⟩]; first | done | rfl))))))
        · intro h51
          have k51 := ne_of_beqf h51; try simp only [List.length_map] at k51
          refine awp_region ?_
          refine sq_plain rfl rfl rfl (w_eql rfl (ev_tmp rfl) ev_ci) ?_
          refine sq_plain rfl rfl rfl (w_assign rfl (ev_tmp rfl)) ?_
          refine sq_nil ?_
          refine awp_cond (ev_tmp rfl) ?_ ?_
          · intro h51
            have k51 := eq_of_beqt h51; try simp only [List.length_map] at k51
            refine awp_region ?_
            refine sq_plain rfl rfl rfl (w_move rfl (ev_tmp rfl)) ?_
            refine sq_plain rfl rfl rfl (w_idxm rfl Tryz.underlying34 Tryz.sizeOf9 (ev_tmp rfl) ev_ci (hy2 c2) (by first | omega | ((try simp only [List.length_map, List.length_take, List.length_cons, List.length_nil, chunks_len, szR] at *); omega) | (have hc2 := hc; simp only [Bool.and_eq_true, Bool.or_eq_true, Bool.or_eq_false_iff, Bool.and_eq_false_iff, Bool.not_eq_true', Bool.not_eq_false', decide_eq_true_eq, decide_eq_false_iff_not, beq_iff_eq, bne_iff_ne, List.length_map, List.length_take] at hc2; omega))) ?_
            refine sq_plain rfl rfl rfl (w_loadE1 rfl (ev_tmp rfl) Tryz.isAgg9 rfl) ?_
            refine sq_plain rfl rfl rfl (w_fldBn 2 rfl Tryz.underlying55 rfl Tryz.sizeOf9 (ev_tmp rfl) rfl) ?_
            refine sq_storeB1 0 rfl rfl rfl (ev_tmp rfl) (ev_tmp rfl) (as_str _) rfl Tryz.sizeOf9 rfl ?_
            refine sq_nil ?_
            refine awp_seq ?_
            refine awp_region ?_
            refine sq_plain rfl rfl rfl (w_loadA 0 rfl (ev_tmp rfl) rfl Tryz.isAgg55 Tryz.sizeOf55 rfl) ?_
            refine sq_storeB0 1 rfl rfl rfl (ev_tmp rfl) (ev_tmp rfl) (as_agg _) rfl Tryz.sizeOf55 rfl ?_
            refine sq_nil ?_
            refine awp_ret ?_
            exact retR rfl (rv_cell (ys := _) 1 rfl rfl Tryz.isAgg55 Tryz.sizeOf55 (by first | rfl | (first | (exfalso; omega) | (refine Eq.symm (hcs.trans ?_); (first | rw [if_pos c1] | rw [if_neg c1]); (first | (rw [if_neg (fun e => c2 e.1), if_neg (fun e => c2 e.1)]; first | done | rfl) | (rw [if_pos ⟨c2, hvT (by omega)⟩, if_neg (fun e => by have h9 := e.2; rw [hvT (by omega)] at h9; cases h9)]; first | done | rfl) | (rw [if_neg (fun e => by have h9 := e.2; rw [hvF (by omega)] at h9; cases h9), if_pos ⟨c2, hvF (by omega)⟩]; first | done | rfl))))))
          · intro h51
            have k51 := ne_of_beqf h51; try simp only [List.length_map] at k51
            refine awp_seq ?_
            refine awp_region ?_
            refine sq_plain rfl rfl rfl (w_move rfl (ev_tmp rfl)) ?_
            refine sq_plain rfl rfl rfl (w_idxm rfl Tryz.underlying34 Tryz.sizeOf9 (ev_tmp rfl) ev_ci (hy2 c2) (by first | omega | ((try simp only [List.length_map, List.length_take, List.length_cons, List.length_nil, chunks_len, szR] at *); omega) | (have hc2 := hc; simp only [Bool.and_eq_true, Bool.or_eq_true, Bool.or_eq_false_iff, Bool.and_eq_false_iff, Bool.not_eq_true', Bool.not_eq_false', decide_eq_true_eq, decide_eq_false_iff_not, beq_iff_eq, bne_iff_ne, List.length_map, List.length_take] at hc2; omega))) ?_
            refine sq_plain rfl rfl rfl (w_loadE1 rfl (ev_tmp rfl) Tryz.isAgg9 rfl) ?_
            refine sq_plain rfl rfl rfl (w_call rfl Tryz.call53 rfl (l5Num_spec y2 (by have h8 := hy2l c2; omega)) (evl_cons (ev_tmp rfl) evl_nil)) ?_
            refine sq_plain rfl rfl rfl (w_move rfl (ev_tmp rfl)) ?_
            refine sq_plain rfl rfl rfl (w_extract rfl (ev_tmp rfl) rfl) ?_
            refine sq_plain rfl rfl rfl (w_extract rfl (ev_tmp rfl) rfl) ?_
            refine sq_plain rfl rfl rfl (w_assign rfl (ev_tmp rfl)) ?_
            refine sq_plain rfl rfl rfl (w_assign rfl (ev_tmp rfl)) ?_
            refine sq_nil ?_
            refine awp_region ?_
            refine sq_plain rfl rfl rfl (w_move rfl (ev_tmp rfl)) ?_
            refine sq_plain rfl rfl rfl (w_fldBn 3 rfl Tryz.underlying55 rfl Tryz.sizeOf3 (ev_tmp rfl) rfl) ?_
            refine sq_storeB1 0 rfl rfl rfl (ev_tmp rfl) (ev_tmp rfl) (as_ik _ _) rfl Tryz.sizeOf3 rfl ?_
            refine sq_nil ?_
            refine awp_seq ?_
            refine awp_region ?_
            refine sq_plain rfl rfl rfl (w_loadA 0 rfl (ev_tmp rfl) rfl Tryz.isAgg55 Tryz.sizeOf55 rfl) ?_
            refine sq_storeB0 1 rfl rfl rfl (ev_tmp rfl) (ev_tmp rfl) (as_agg _) rfl Tryz.sizeOf55 rfl ?_
            refine sq_nil ?_
            refine awp_ret ?_
            exact retR rfl (rv_cell (ys := _) 1 rfl rfl Tryz.isAgg55 Tryz.sizeOf55 (by first | rfl | (first | (exfalso; omega) | (refine Eq.symm (hcs.trans ?_); (first | rw [if_pos c1] | rw [if_neg c1]); (first | (rw [if_neg (fun e => c2 e.1), if_neg (fun e => c2 e.1)]; first | done | rfl) | (rw [if_pos ⟨c2, hvT (by omega)⟩, if_neg (fun e => by have h9 := e.2; rw [hvT (by omega)] at h9; cases h9)]; first | done | rfl) | (rw [if_neg (fun e => by have h9 := e.2; rw [hvF (by omega)] at h9; cases h9), if_pos ⟨c2, hvF (by omega)⟩]; first | done | rfl))))))
      · intro h39
        have k39 := of_decide_eq_false h39; try simp only [List.length_map] at k39
        have c2 : ¬ 2 < (y0 :: r).length := by omega
        refine awp_skip ?_
        refine awp_seq ?_
        refine awp_region ?_
        refine sq_plain rfl rfl rfl (w_loadA 0 rfl (ev_tmp rfl) rfl Tryz.isAgg55 Tryz.sizeOf55 rfl) ?_
        refine sq_storeB0 1 rfl rfl rfl (ev_tmp rfl) (ev_tmp rfl) (as_agg _) rfl Tryz.sizeOf55 rfl ?_
        refine sq_nil ?_
        refine awp_ret ?_
        exact retR rfl (rv_cell (ys := _) 1 rfl rfl Tryz.isAgg55 Tryz.sizeOf55 (by first | rfl | (first | (exfalso; omega) | (refine Eq.symm (hcs.trans ?_); (first | rw [if_pos c1] | rw [if_neg c1]); (first | (rw [if_neg (fun e => c2 e.1), if_neg (fun e => c2 e.1)]; first | done | rfl) | (rw [if_pos ⟨c2, hvT (by omega)⟩, if_neg (fun e => by have h9 := e.2; rw [hvT (by omega)] at h9; cases h9)]; first | done | rfl) | (rw [if_neg (fun e => by have h9 := e.2; rw [hvF (by omega)] at h9; cases h9), if_pos ⟨c2, hvF (by omega)⟩]; first | done | rfl))))))

theorem splitC_cnt (c : UInt8) : ∀ s : Str, (splitC c s).length ≤ s.length + 1
  | [] => by simp [splitC]
  | b :: s => by
    have ih := splitC_cnt c s
    rw [splitC_cons]
    split
    · simp only [List.length_cons]; omega
    · cases h : splitC c s with
      | nil => simp [addP]
      | cons x xs => rw [h] at ih; simp only [addP, List.length_cons] at ih ⊢; omega
theorem readOpsS_spec (s : Str) (hs : s.length ≤ 1048576) : FSpec Tryz.prog 12 [AV.str s] (AV.tup [AV.list 4 ((parseOS s).1.map TOp.cs), AV.bool (parseOS s).2]) := by
  refine spec_of_awp Tryz.func12 rfl Tryz.ntmps12 rfl ?_
  refine awp_seq ?_
  refine awp_region ?_
  refine sq_plain rfl rfl rfl (w_assign rfl (ev_cnil (sz := 4))) ?_
  refine sq_plain rfl rfl rfl (w_assign rfl ev_cb) ?_
  refine sq_nil ?_
  refine awp_seq ?_
  refine awp_seq ?_
  refine awp_region ?_
  refine sq_plain rfl rfl rfl (w_move rfl (ev_tmp rfl)) ?_
  refine sq_plain rfl rfl rfl (w_slen rfl Tryz.underlying9 (ev_tmp rfl)) ?_
  refine sq_plain rfl rfl rfl (w_gtr rfl (ev_tmp rfl) ev_ci) ?_
  refine sq_nil ?_
  refine awp_cond (ev_tmp rfl) ?_ ?_
  · intro h9
    have k9 := of_decide_eq_true h9; try simp only [List.length_map] at k9
    have he : parseOS s = ([], false) := if_pos (by omega)
    rw [he]
    refine awp_seq ?_
    refine awp_region ?_
    refine sq_plain rfl rfl rfl (w_assign rfl (ev_cnil (sz := 4))) ?_
    refine sq_plain rfl rfl rfl (w_assign rfl ev_cb) ?_
    refine sq_nil ?_
    refine awp_ret ?_
    exact retN rfl (by decide) (rv_cons (rv_tmp' rfl (by rfl)) (rv_cons (rv_tmp' rfl (by rfl)) rv_nil))
  · intro h9
    have k9 := of_decide_eq_false h9; try simp only [List.length_map] at k9
    have hs4 : ¬ 400 < s.length := by omega
    refine awp_skip ?_
    refine awp_seq ?_
    refine awp_region ?_
    refine sq_nilarr 55 4 rfl rfl rfl rfl ev_cnils ?_
    intro v4
    refine sq_nil ?_
    refine awp_seq ?_
    refine awp_seq ?_
    refine awp_region ?_
    refine sq_plain rfl rfl rfl (w_move rfl (ev_tmp rfl)) ?_
    refine sq_plain rfl rfl rfl (w_sneq rfl (ev_tmp rfl) (ev_cs' (l := []) rfl)) ?_
    refine sq_nil ?_
    refine awp_cond (ev_tmp rfl) ?_ ?_
    · intro h11
      have hs0 : ¬ s = [] := by simpa using h11
      obtain ⟨W, hW⟩ : ∃ W, splitC 59 s = W := ⟨_, rfl⟩
      have hWl : W.length ≤ 401 := by (have h9 := splitC_cnt 59 s; rw [hW] at h9; omega)
      have hWs : ∀ p ∈ W, p.length ≤ 400 := fun p hp => by (have h9 := splitC_len (c := 59) (s := s) (w := p) (by rw [hW]; exact hp); omega)
      have hpo : parseOS s = endP s (partsS W) := by (unfold parseOS; rw [if_neg hs4, if_neg hs0, hW])
      refine awp_seq ?_
      refine awp_region ?_
      refine sq_plain rfl rfl rfl (w_move rfl (ev_tmp rfl)) ?_
      refine sq_plain rfl rfl rfl (w_call rfl Tryz.call50 rfl (l1Split_spec s 59 hs) (evl_cons (ev_tmp rfl) (evl_cons ev_ci evl_nil))) ?_
      rw [hW]
      refine sq_plain rfl rfl rfl (w_llen rfl Tryz.underlying34 (ev_tmp rfl)) ?_
      refine sq_plain rfl rfl rfl (w_move rfl ev_ci) ?_
      refine sq_nil ?_
      refine awp_block ?_
      refine awp_loop_i3 [(0, _), (13, _), (14, _)] _ (fun (i : Nat) (v : Value) (q : List TOp) => i ≤ W.length ∧ partsS W = (partsX i (W.drop i)).map (q ++ ·) ∧ q.length = i ∧ sizeL TOp.size q ≤ 801 * i) (fun (i : Nat) (v : Value) (q : List TOp) => [.arr v 55 4 (q.map TOp.cs)]) (fun (i : Nat) (v : Value) (q : List TOp) => [(4, AV.is v), (15, AV.int i)]) (fun (i : Nat) (v : Value) (q : List TOp) => W.length - i) (0) (v4) ([]) ?_ (le_eq (by rfl) ⟨rfl, rfl, rfl, rfl, rfl, trivial⟩) ?_
      · exact ⟨Nat.zero_le _, by simp [partsX], rfl, by simp [sizeL]⟩
      intro i v q hinv
      refine awp_seq ?_
      refine awp_region ?_
      refine sq_plain rfl rfl rfl (w_lss rfl (ev_tmp rfl) (ev_tmp rfl)) ?_
      refine sq_nil ?_
      refine awp_seq ?_
      refine awp_cond (ev_tmp rfl) ?_ ?_
      · intro h16
        have k16 := of_decide_eq_true h16; try simp only [List.length_map] at k16
        have hlt : i < W.length := by omega
        obtain ⟨x, hx⟩ := get_some hlt
        have hxl := hWs x (List.mem_of_getElem? hx)
        refine awp_skip ?_
        refine awp_seq ?_
        refine awp_block ?_
        refine awp_seq ?_
        refine awp_region ?_
        refine sq_plain rfl rfl rfl (w_move rfl (ev_tmp rfl)) ?_
        refine sq_plain rfl rfl rfl (w_idxm rfl Tryz.underlying34 Tryz.sizeOf9 (ev_tmp rfl) (ev_tmp rfl) hx (by first | omega | ((try simp only [List.length_map, List.length_take, List.length_cons, List.length_nil, chunks_len, szR] at *); omega) | (have hc2 := hc; simp only [Bool.and_eq_true, Bool.or_eq_true, Bool.or_eq_false_iff, Bool.and_eq_false_iff, Bool.not_eq_true', Bool.not_eq_false', decide_eq_true_eq, decide_eq_false_iff_not, beq_iff_eq, bne_iff_ne, List.length_map, List.length_take] at hc2; omega))) ?_
        refine sq_plain rfl rfl rfl (w_loadE1 rfl (ev_tmp rfl) Tryz.isAgg9 rfl) ?_
        refine sq_plain rfl rfl rfl (w_assign rfl (ev_tmp rfl)) ?_
        refine sq_plain rfl rfl rfl (w_assign rfl (ev_tmp rfl)) ?_
        refine sq_nil ?_
        refine awp_seq ?_
        refine awp_seq ?_
        refine awp_region ?_
        refine sq_plain rfl rfl rfl (w_move rfl (ev_tmp rfl)) ?_
        refine sq_plain rfl rfl rfl (w_gtr rfl (ev_tmp rfl) ev_ci) ?_
        refine sq_nil ?_
        refine awp_cond (ev_tmp rfl) ?_ ?_
        · intro h21
          have k21 := of_decide_eq_true h21; try simp only [List.length_map] at k21
          refine awp_seq ?_
          refine awp_seq ?_
          refine awp_region ?_
          refine sq_plain rfl rfl rfl (w_move rfl (ev_tmp rfl)) ?_
          refine sq_plain rfl rfl rfl (w_seql rfl (ev_tmp rfl) (ev_cs' (l := []) rfl)) ?_
          refine sq_nil ?_
          refine awp_cond (ev_tmp rfl) ?_ ?_
          · intro h23
            have he : parseOS s = ([], false) := by (rw [hpo, partsX_stop hinv.2.1 hx (by omega) (by simpa using h23)]; rfl)
            rw [he]
            refine awp_seq ?_
            refine awp_region ?_
            refine sq_plain rfl rfl rfl (w_assign rfl (ev_cnil (sz := 4))) ?_
            refine sq_plain rfl rfl rfl (w_assign rfl ev_cb) ?_
            refine sq_nil ?_
            refine awp_ret ?_
            exact retN rfl (by decide) (rv_cons (rv_tmp' rfl (by rfl)) (rv_cons (rv_tmp' rfl (by rfl)) rv_nil))
          · intro h23
            have hx0 : ¬ x = [] := by simpa using h23
            have hx1 : 1 ≤ x.length := by (cases x with | nil => exact absurd rfl hx0 | cons a b => simp)
            have hxd : (x.drop 1).length ≤ 400 := by (rw [List.length_drop]; omega)
            refine awp_skip ?_
            refine awp_region ?_
            refine sq_plain rfl rfl rfl (w_move rfl (ev_tmp rfl)) ?_
            refine sq_plain rfl rfl rfl (w_ssl_lo rfl Tryz.underlying9 (ev_tmp rfl) ev_ci (by first | omega | ((try simp only [List.length_map, List.length_take, List.length_cons, List.length_nil, chunks_len, szR] at *); omega) | (have hc2 := hc; simp only [Bool.and_eq_true, Bool.or_eq_true, Bool.or_eq_false_iff, Bool.and_eq_false_iff, Bool.not_eq_true', Bool.not_eq_false', decide_eq_true_eq, decide_eq_false_iff_not, beq_iff_eq, bne_iff_ne, List.length_map, List.length_take] at hc2; omega)) (by first | omega | ((try simp only [List.length_map, List.length_take, List.length_cons, List.length_nil, chunks_len, szR] at *); omega) | (have hc2 := hc; simp only [Bool.and_eq_true, Bool.or_eq_true, Bool.or_eq_false_iff, Bool.and_eq_false_iff, Bool.not_eq_true', Bool.not_eq_false', decide_eq_true_eq, decide_eq_false_iff_not, beq_iff_eq, bne_iff_ne, List.length_map, List.length_take] at hc2; omega))) ?_
            refine sq_plain rfl rfl rfl (w_assign rfl (ev_tmp rfl)) ?_
            refine sq_nil ?_
            refine awp_region ?_
            refine sq_plain rfl rfl rfl (w_move rfl (ev_tmp rfl)) ?_
            refine sq_plain rfl rfl rfl (w_move rfl (ev_tmp rfl)) ?_
            refine sq_plain rfl rfl rfl (w_call rfl Tryz.call51 rfl (l5ReadOp_spec _ (by first | (show (x.drop 1).length ≤ 1048576; omega) | omega)) (evl_cons (ev_tmp rfl) evl_nil)) ?_
            refine sq_plain rfl rfl rfl (w_bslice rfl Tryz.underlying24 Tryz.sizeOf55 Tryz.zeroValue55 rfl rfl rfl rfl (bp_cons (ev_tmp rfl) (as_agg _) bp_nil) rfl rfl) ?_
            refine sq_append (by' := 48) 0 rfl rfl rfl rfl Tryz.underlying24 Tryz.type55 rfl rfl rfl rfl rfl rfl (ev_tmp rfl) (ev_tmp rfl) rfl (by simp only [List.length_map, chunks_len]; omega) ?_
            intro v30_1
            refine sq_plain rfl rfl rfl (w_assign rfl (ev_tmp rfl)) ?_
            refine sq_nil ?_
            refine awp_region ?_
            refine sq_plain rfl rfl rfl (w_addi rfl (ev_tmp rfl) ev_ci (by first | omega | ((try simp only [List.length_map, List.length_take, List.length_cons, List.length_nil, chunks_len, szR] at *); omega) | (have hc2 := hc; simp only [Bool.and_eq_true, Bool.or_eq_true, Bool.or_eq_false_iff, Bool.and_eq_false_iff, Bool.not_eq_true', Bool.not_eq_false', decide_eq_true_eq, decide_eq_false_iff_not, beq_iff_eq, bne_iff_ne, List.length_map, List.length_take] at hc2; omega))) ?_
            refine sq_plain rfl rfl rfl (w_move rfl (ev_tmp rfl)) ?_
            refine sq_nil ?_
            refine round_end3 i v q (i + 1) (v30_1) (q ++ [opOfS (splitC 32 (if 0 < i then x.drop 1 else x))]) ?_ ?_ (le_eq (by exact congrArg (fun z => [Own.arr _ 55 4 z]) (by rw [List.map_append]; exact congrArg (fun z => _ ++ [z]) (by first | (rw [if_pos (show 0 < i by omega)]; rfl) | (rw [if_neg (show ¬ 0 < i by omega)]; rfl)))) ⟨rfl, rfl, rfl, rfl, rfl, trivial⟩)
            · exact ⟨by omega, partsX_step hinv.2.1 hx (fun h9 => by first | (exfalso; omega) | simpa using h23), by rw [List.length_append, hinv.2.2.1]; rfl, snoc_sz hinv.2.2.2 (by have h9 := opOfS_size (w := splitC 32 (if 0 < i then x.drop 1 else x)) (m := 400) (fun p hp => by have h8 := splitC_len hp; split at h8 <;> (try rw [List.length_drop] at h8) <;> omega); omega)⟩
            · omega
        · intro h21
          have k21 := of_decide_eq_false h21; try simp only [List.length_map] at k21
          refine awp_skip ?_
          refine awp_region ?_
          refine sq_plain rfl rfl rfl (w_move rfl (ev_tmp rfl)) ?_
          refine sq_plain rfl rfl rfl (w_move rfl (ev_tmp rfl)) ?_
          refine sq_plain rfl rfl rfl (w_call rfl Tryz.call51 rfl (l5ReadOp_spec _ (by first | (show (x.drop 1).length ≤ 1048576; omega) | omega)) (evl_cons (ev_tmp rfl) evl_nil)) ?_
          refine sq_plain rfl rfl rfl (w_bslice rfl Tryz.underlying24 Tryz.sizeOf55 Tryz.zeroValue55 rfl rfl rfl rfl (bp_cons (ev_tmp rfl) (as_agg _) bp_nil) rfl rfl) ?_
          refine sq_append (by' := 48) 0 rfl rfl rfl rfl Tryz.underlying24 Tryz.type55 rfl rfl rfl rfl rfl rfl (ev_tmp rfl) (ev_tmp rfl) rfl (by simp only [List.length_map, chunks_len]; omega) ?_
          intro v30_2
          refine sq_plain rfl rfl rfl (w_assign rfl (ev_tmp rfl)) ?_
          refine sq_nil ?_
          refine awp_region ?_
          refine sq_plain rfl rfl rfl (w_addi rfl (ev_tmp rfl) ev_ci (by first | omega | ((try simp only [List.length_map, List.length_take, List.length_cons, List.length_nil, chunks_len, szR] at *); omega) | (have hc2 := hc; simp only [Bool.and_eq_true, Bool.or_eq_true, Bool.or_eq_false_iff, Bool.and_eq_false_iff, Bool.not_eq_true', Bool.not_eq_false', decide_eq_true_eq, decide_eq_false_iff_not, beq_iff_eq, bne_iff_ne, List.length_map, List.length_take] at hc2; omega))) ?_
          refine sq_plain rfl rfl rfl (w_move rfl (ev_tmp rfl)) ?_
          refine sq_nil ?_
          refine round_end3 i v q (i + 1) (v30_2) (q ++ [opOfS (splitC 32 (if 0 < i then x.drop 1 else x))]) ?_ ?_ (le_eq (by exact congrArg (fun z => [Own.arr _ 55 4 z]) (by rw [List.map_append]; exact congrArg (fun z => _ ++ [z]) (by first | (rw [if_pos (show 0 < i by omega)]; rfl) | (rw [if_neg (show ¬ 0 < i by omega)]; rfl)))) ⟨rfl, rfl, rfl, rfl, rfl, trivial⟩)
          · exact ⟨by omega, partsX_step hinv.2.1 hx (fun h9 => by first | (exfalso; omega) | simpa using h23), by rw [List.length_append, hinv.2.2.1]; rfl, snoc_sz hinv.2.2.2 (by have h9 := opOfS_size (w := splitC 32 (if 0 < i then x.drop 1 else x)) (m := 400) (fun p hp => by have h8 := splitC_len hp; split at h8 <;> (try rw [List.length_drop] at h8) <;> omega); omega)⟩
          · omega
      · intro h16
        have k16 := of_decide_eq_false h16; try simp only [List.length_map] at k16
        have hpe := partsX_end hinv.2.1 (show W.length ≤ i by omega)
        rw [hpe] at hpo
        have hpq : parseOS s = endO s q := hpo
        have hqs : sizeL TOp.size q ≤ 1048576 := by omega
        refine awp_exit ?_
        refine awp_seq ?_
        refine awp_seq ?_
        refine awp_region ?_
        refine sq_plain rfl rfl rfl (w_move rfl (ev_tmp rfl)) ?_
        refine sq_plain rfl rfl rfl (w_callB rfl Tryz.call39 rfl (l5Good_spec _ hqs) (flat_bool _) (evlb_cons (evb_arr 0 (ev_tmp rfl) rfl) evlb_nil)) ?_
        refine sq_plain rfl rfl rfl (w_not rfl (ev_tmp rfl)) ?_
        refine sq_plain rfl rfl rfl (w_move rfl (ev_tmp rfl)) ?_
        refine sq_grd rfl rfl (guard_f rfl rfl rfl) (fun hc => w_move rfl (ev_tmp rfl)) ?_
        refine sq_grd rfl rfl (guard_f rfl rfl rfl) (fun hc => w_callB rfl Tryz.call40 rfl (l5OpsText_spec _ (by first | (rw [goodOps_eq]; simpa using hc) | rfl)) (flat_str _) (evlb_cons (evb_arr 0 (ev_whn rfl hc) rfl) evlb_nil)) ?_
        refine sq_grd rfl rfl (guard_f rfl rfl rfl) (fun hc => w_move rfl (ev_tmp rfl)) ?_
        refine sq_grd rfl rfl (guard_f rfl rfl rfl) (fun hc => w_sneq rfl (ev_whn rfl hc) (ev_whn rfl hc)) ?_
        refine sq_plain rfl rfl rfl (w_or rfl (ev_tmp rfl) (evif_w rfl)) ?_
        refine sq_nil ?_
        refine awp_cond (ev_tmp rfl) ?_ ?_
        · intro h40
          have he : parseOS s = ([], false) := hpq.trans (if_pos (by rw [goodOps_eq]; exact h40))
          rw [he]
          refine awp_seq ?_
          refine awp_region ?_
          refine sq_plain rfl rfl rfl (w_assign rfl (ev_cnil (sz := 4))) ?_
          refine sq_plain rfl rfl rfl (w_assign rfl ev_cb) ?_
          refine sq_nil ?_
          refine awp_ret ?_
          exact retN rfl (by decide) (rv_cons (rv_tmp' rfl (by rfl)) (rv_cons (rv_tmp' rfl (by rfl)) rv_nil))
        · intro h40
          have he := hpq.trans (if_neg (by rw [goodOps_eq]; exact fun e => Bool.noConfusion (e.symm.trans h40)))
          rw [he]
          refine awp_skip ?_
          refine awp_seq ?_
          refine awp_region ?_
          refine sq_plain rfl rfl rfl (w_move rfl (ev_tmp rfl)) ?_
          refine sq_plain rfl rfl rfl (w_assign rfl (ev_tmp rfl)) ?_
          refine sq_plain rfl rfl rfl (w_assign rfl ev_cb) ?_
          refine sq_nil ?_
          refine awp_ret ?_
          refine ret_seal 0 2 rfl rfl ?_
          exact retN rfl (by decide) (rv_cons (rv_tmp' rfl (by rfl)) (rv_cons (rv_tmp' rfl (by rfl)) rv_nil))
    · intro h11
      have hs0 : s = [] := by simpa using h11
      have hpq : parseOS s = endO s [] := by (unfold parseOS; rw [if_neg hs4, if_pos hs0]; rfl)
      refine awp_own (show [Own.arr v4 55 4 []] = [Own.arr v4 55 4 (([] : List TOp).map TOp.cs)] from rfl) ?_
      have hqs : sizeL TOp.size ([] : List TOp) ≤ 1048576 := by simp [sizeL]
      refine awp_skip ?_
      refine awp_seq ?_
      refine awp_seq ?_
      refine awp_region ?_
      refine sq_plain rfl rfl rfl (w_move rfl (ev_tmp rfl)) ?_
      refine sq_plain rfl rfl rfl (w_callB rfl Tryz.call39 rfl (l5Good_spec _ hqs) (flat_bool _) (evlb_cons (evb_arr 0 (ev_tmp rfl) rfl) evlb_nil)) ?_
      refine sq_plain rfl rfl rfl (w_not rfl (ev_tmp rfl)) ?_
      refine sq_plain rfl rfl rfl (w_move rfl (ev_tmp rfl)) ?_
      refine sq_grd rfl rfl (guard_f rfl rfl rfl) (fun hc => w_move rfl (ev_tmp rfl)) ?_
      refine sq_grd rfl rfl (guard_f rfl rfl rfl) (fun hc => w_callB rfl Tryz.call40 rfl (l5OpsText_spec _ (by first | (rw [goodOps_eq]; simpa using hc) | rfl)) (flat_str _) (evlb_cons (evb_arr 0 (ev_whn rfl hc) rfl) evlb_nil)) ?_
      refine sq_grd rfl rfl (guard_f rfl rfl rfl) (fun hc => w_move rfl (ev_tmp rfl)) ?_
      refine sq_grd rfl rfl (guard_f rfl rfl rfl) (fun hc => w_sneq rfl (ev_whn rfl hc) (ev_whn rfl hc)) ?_
      refine sq_plain rfl rfl rfl (w_or rfl (ev_tmp rfl) (evif_w rfl)) ?_
      refine sq_nil ?_
      refine awp_cond (ev_tmp rfl) ?_ ?_
      · intro h40
        have he : parseOS s = ([], false) := hpq.trans (if_pos (by rw [goodOps_eq]; exact h40))
        rw [he]
        refine awp_seq ?_
        refine awp_region ?_
        refine sq_plain rfl rfl rfl (w_assign rfl (ev_cnil (sz := 4))) ?_
        refine sq_plain rfl rfl rfl (w_assign rfl ev_cb) ?_
        refine sq_nil ?_
        refine awp_ret ?_
        exact retN rfl (by decide) (rv_cons (rv_tmp' rfl (by rfl)) (rv_cons (rv_tmp' rfl (by rfl)) rv_nil))
      · intro h40
        have he := hpq.trans (if_neg (by rw [goodOps_eq]; exact fun e => Bool.noConfusion (e.symm.trans h40)))
        rw [he]
        refine awp_skip ?_
        refine awp_seq ?_
        refine awp_region ?_
        refine sq_plain rfl rfl rfl (w_move rfl (ev_tmp rfl)) ?_
        refine sq_plain rfl rfl rfl (w_assign rfl (ev_tmp rfl)) ?_
        refine sq_plain rfl rfl rfl (w_assign rfl ev_cb) ?_
        refine sq_nil ?_
        refine awp_ret ?_
        refine ret_seal 0 2 rfl rfl ?_
        exact retN rfl (by decide) (rv_cons (rv_tmp' rfl (by rfl)) (rv_cons (rv_tmp' rfl (by rfl)) rv_nil))
end Go.Proofs.YtmlmmgeadombbaaGreatDoor

set_option linter.unusedVariables false
set_option linter.unusedSimpArgs false
set_option maxRecDepth 100000
set_option maxHeartbeats 2000000
namespace Go.Proofs.YtmlmmgeadombbaaGreatDoor
open Go Go.AV Go.M
attribute [local irreducible] OpW OpA OpS AWP FSpec ESpec GSpec OpE RetOk RetOkG RvDen Le Ev GuardIs SrcIs Int.tmod Int.tdiv IntKind.wrap bandI
theorem curOp_own (b : Nat) (code : List Int) (hcode : ByteL code) (c : TCur) (hp : c.p ≤ 5000000) : GSpec Tryz.prog 103 [AV.ptr b 0] [.box b 61 (curC code c)] (fun x : TCur × TOp => x.1.p ≤ c.p + 10 ∧ x.2.size ≤ 128) (fun x => [.box b 61 (curC code x.1)]) (fun x => AV.agg x.2.cs) := by
  refine gspec_of_awp Tryz.func103 rfl Tryz.ntmps103 rfl ?_
  refine awp_seq ?_
  refine awp_region ?_
  refine sq_alloc rfl rfl rfl rfl Tryz.zeroValue55 rfl ?_
  intro b2
  refine sq_nil ?_
  refine awp_seq ?_
  refine awp_region ?_
  refine sq_plain rfl rfl rfl (w_move rfl (ev_tmp rfl)) ?_
  refine sq_callG [1] rfl rfl rfl rfl Tryz.call77 rfl (curPick_own _ _ hcode _ _ (by omega) (by omega)) (evl_cons (ev_tmp rfl) (evl_cons ev_ci evl_nil)) rfl ?_
  intro x5 ok5
  refine sq_plain rfl rfl rfl (w_addi rfl ev_ci (ev_tmp rfl) (by first | omega | ((try simp only [List.length_map, List.length_take, List.length_cons, List.length_nil, chunks_len, szR] at *); omega) | (have hc2 := hc; simp only [Bool.and_eq_true, Bool.or_eq_true, Bool.or_eq_false_iff, Bool.and_eq_false_iff, Bool.not_eq_true', Bool.not_eq_false', decide_eq_true_eq, decide_eq_false_iff_not, beq_iff_eq, bne_iff_ne, List.length_map, List.length_take] at hc2; omega))) ?_
  refine sq_plain rfl rfl rfl (w_move rfl (ev_tmp rfl)) ?_
  refine sq_callG [0] rfl rfl rfl rfl Tryz.call127 rfl (curKey_own _ _ hcode _ (by omega)) (evl_cons (ev_tmp rfl) evl_nil) rfl ?_
  intro x8 ok8
  refine sq_plain rfl rfl rfl (w_build (places := #[(0, 1), (1, 1), (2, 1), (3, 1)]) rfl Tryz.underlying55 Tryz.zeroValue55 (fun w => by kernel_rfl) rfl (bp_cons (ev_tmp rfl) (as_ik _ _) (bp_cons (ev_tmp rfl) (as_str _) bp_nil)) rfl) ?_
  refine sq_alloc rfl rfl rfl rfl Tryz.zeroValue55 rfl ?_
  intro b3
  refine sq_storeB0 0 rfl rfl rfl (ev_tmp rfl) (ev_tmp rfl) (as_agg _) rfl Tryz.sizeOf55 rfl ?_
  refine sq_nil ?_
  refine awp_seq ?_
  refine awp_seq ?_
  refine awp_region ?_
  refine sq_plain rfl rfl rfl (w_fldBn 0 rfl Tryz.underlying55 rfl Tryz.sizeOf3 (ev_tmp rfl) rfl) ?_
  refine sq_plain rfl rfl rfl (w_loadB1 0 rfl (ev_tmp rfl) rfl Tryz.isAgg3 rfl) ?_
  refine sq_nil ?_
  refine awp_block ?_
  refine awp_seq ?_
  refine awp_seq ?_
  refine awp_region ?_
  refine sq_plain rfl rfl rfl (w_eql rfl (ev_tmp rfl) ev_ci) ?_
  refine sq_plain rfl rfl rfl (w_assign rfl (ev_tmp rfl)) ?_
  refine sq_nil ?_
  refine awp_cond (ev_tmp rfl) ?_ ?_
  · intro h12
    have k12 := eq_of_beqt h12; try simp only [List.length_map] at k12
    refine awp_skip ?_
    refine awp_cond (ev_tmp rfl) ?_ ?_
    · intro h12
      have k12 := eq_of_beqt h12; try simp only [List.length_map] at k12
      refine awp_region ?_
      refine sq_plain rfl rfl rfl (w_move rfl (ev_tmp rfl)) ?_
      refine sq_callG [1] rfl rfl rfl rfl Tryz.call150 rfl (curVal_own _ _ hcode _ (by omega)) (evl_cons (ev_tmp rfl) evl_nil) rfl ?_
      intro x16 ok16
      refine sq_plain rfl rfl rfl (w_fldBn 2 rfl Tryz.underlying55 rfl Tryz.sizeOf9 (ev_tmp rfl) rfl) ?_
      refine sq_storeB1 1 rfl rfl rfl (ev_tmp rfl) (ev_tmp rfl) (as_str _) rfl Tryz.sizeOf9 rfl ?_
      refine sq_nil ?_
      refine awp_seq ?_
      refine awp_region ?_
      refine sq_plain rfl rfl rfl (w_loadA 1 rfl (ev_tmp rfl) rfl Tryz.isAgg55 Tryz.sizeOf55 rfl) ?_
      refine sq_storeB0 2 rfl rfl rfl (ev_tmp rfl) (ev_tmp rfl) (as_agg _) rfl Tryz.sizeOf55 rfl ?_
      refine sq_nil ?_
      refine awp_ret ?_
      (refine retG [0] ((x16.1, ⟨1 + x5.2, x8.2, x16.2, 0⟩)) ?_ rfl (by first | (dsimp only; rfl) | rfl) (resR rfl (rv_cell (ys := _) 2 rfl rfl Tryz.isAgg55 Tryz.sizeOf55 rfl)); (dsimp only [TOp.size]; first | exact ⟨by omega, by omega⟩ | exact ⟨by omega, by simp only [List.length_nil]; omega⟩))
    · intro h12
      have k12 := ne_of_beqf h12; try simp only [List.length_map] at k12
      refine awp_seq ?_
      refine awp_seq ?_
      refine awp_region ?_
      refine sq_plain rfl rfl rfl (w_eql rfl (ev_tmp rfl) ev_ci) ?_
      refine sq_plain rfl rfl rfl (w_assign rfl (ev_tmp rfl)) ?_
      refine sq_nil ?_
      refine awp_cond (ev_tmp rfl) ?_ ?_
      · intro h18
        have k18 := eq_of_beqt h18; try simp only [List.length_map] at k18
        refine awp_skip ?_
        refine awp_cond (ev_tmp rfl) ?_ ?_
        · intro h18
          have k18 := eq_of_beqt h18; try simp only [List.length_map] at k18
          refine awp_region ?_
          refine sq_plain rfl rfl rfl (w_move rfl (ev_tmp rfl)) ?_
          refine sq_plain rfl rfl rfl (w_bslice rfl Tryz.underlying113 Tryz.sizeOf3 Tryz.zeroValue3 rfl rfl rfl rfl (bp_cons ev_ci (as_ik _ _) (bp_cons ev_ci (as_ik _ _) (bp_cons ev_ci (as_ik _ _) (bp_cons ev_ci (as_ik _ _) (bp_cons ev_ci (as_ik _ _) (bp_cons ev_ci (as_ik _ _) bp_nil)))))) rfl rfl) ?_
          refine sq_callG [1] rfl rfl rfl rfl Tryz.call132 rfl (curAmong_own _ _ hcode _ ([(1), (2), (5), (-3), (0), (100)] : List Int) (by decide) (by omega)) (evl_cons (ev_tmp rfl) (evl_cons (ev_tmp rfl) evl_nil)) rfl ?_
          intro x23 ok23
          refine sq_plain rfl rfl rfl (w_fldBn 3 rfl Tryz.underlying55 rfl Tryz.sizeOf3 (ev_tmp rfl) rfl) ?_
          refine sq_storeB1 1 rfl rfl rfl (ev_tmp rfl) (ev_tmp rfl) (as_ik _ _) rfl Tryz.sizeOf3 rfl ?_
          refine sq_nil ?_
          refine awp_seq ?_
          refine awp_region ?_
          refine sq_plain rfl rfl rfl (w_loadA 1 rfl (ev_tmp rfl) rfl Tryz.isAgg55 Tryz.sizeOf55 rfl) ?_
          refine sq_storeB0 2 rfl rfl rfl (ev_tmp rfl) (ev_tmp rfl) (as_agg _) rfl Tryz.sizeOf55 rfl ?_
          refine sq_nil ?_
          refine awp_ret ?_
          (refine retG [0] ((x23.1, ⟨1 + x5.2, x8.2, [], x23.2⟩)) ?_ rfl (by first | (dsimp only; rfl) | rfl) (resR rfl (rv_cell (ys := _) 2 rfl rfl Tryz.isAgg55 Tryz.sizeOf55 rfl)); (dsimp only [TOp.size]; first | exact ⟨by omega, by omega⟩ | exact ⟨by omega, by simp only [List.length_nil]; omega⟩))
        · intro h18
          have k18 := ne_of_beqf h18; try simp only [List.length_map] at k18
          refine awp_skip ?_
          refine awp_seq ?_
          refine awp_region ?_
          refine sq_plain rfl rfl rfl (w_loadA 0 rfl (ev_tmp rfl) rfl Tryz.isAgg55 Tryz.sizeOf55 rfl) ?_
          refine sq_storeB0 2 rfl rfl rfl (ev_tmp rfl) (ev_tmp rfl) (as_agg _) rfl Tryz.sizeOf55 rfl ?_
          refine sq_nil ?_
          refine awp_ret ?_
          (refine retG [1] ((x8.1, ⟨1 + x5.2, x8.2, [], 0⟩)) ?_ rfl (by first | (dsimp only; rfl) | rfl) (resR rfl (rv_cell (ys := _) 2 rfl rfl Tryz.isAgg55 Tryz.sizeOf55 rfl)); (dsimp only [TOp.size]; first | exact ⟨by omega, by omega⟩ | exact ⟨by omega, by simp only [List.length_nil]; omega⟩))
      · intro h18
        have k18 := ne_of_beqf h18; try simp only [List.length_map] at k18
        refine awp_region ?_
        refine sq_plain rfl rfl rfl (w_eql rfl (ev_tmp rfl) ev_ci) ?_
        refine sq_plain rfl rfl rfl (w_assign rfl (ev_tmp rfl)) ?_
        refine sq_nil ?_
        refine awp_cond (ev_tmp rfl) ?_ ?_
        · intro h18
          have k18 := eq_of_beqt h18; try simp only [List.length_map] at k18
          refine awp_region ?_
          refine sq_plain rfl rfl rfl (w_move rfl (ev_tmp rfl)) ?_
          refine sq_plain rfl rfl rfl (w_bslice rfl Tryz.underlying113 Tryz.sizeOf3 Tryz.zeroValue3 rfl rfl rfl rfl (bp_cons ev_ci (as_ik _ _) (bp_cons ev_ci (as_ik _ _) (bp_cons ev_ci (as_ik _ _) (bp_cons ev_ci (as_ik _ _) (bp_cons ev_ci (as_ik _ _) (bp_cons ev_ci (as_ik _ _) bp_nil)))))) rfl rfl) ?_
          refine sq_callG [1] rfl rfl rfl rfl Tryz.call132 rfl (curAmong_own _ _ hcode _ ([(1), (2), (5), (-3), (0), (100)] : List Int) (by decide) (by omega)) (evl_cons (ev_tmp rfl) (evl_cons (ev_tmp rfl) evl_nil)) rfl ?_
          intro x23 ok23
          refine sq_plain rfl rfl rfl (w_fldBn 3 rfl Tryz.underlying55 rfl Tryz.sizeOf3 (ev_tmp rfl) rfl) ?_
          refine sq_storeB1 1 rfl rfl rfl (ev_tmp rfl) (ev_tmp rfl) (as_ik _ _) rfl Tryz.sizeOf3 rfl ?_
          refine sq_nil ?_
          refine awp_seq ?_
          refine awp_region ?_
          refine sq_plain rfl rfl rfl (w_loadA 1 rfl (ev_tmp rfl) rfl Tryz.isAgg55 Tryz.sizeOf55 rfl) ?_
          refine sq_storeB0 2 rfl rfl rfl (ev_tmp rfl) (ev_tmp rfl) (as_agg _) rfl Tryz.sizeOf55 rfl ?_
          refine sq_nil ?_
          refine awp_ret ?_
          (refine retG [0] ((x23.1, ⟨1 + x5.2, x8.2, [], x23.2⟩)) ?_ rfl (by first | (dsimp only; rfl) | rfl) (resR rfl (rv_cell (ys := _) 2 rfl rfl Tryz.isAgg55 Tryz.sizeOf55 rfl)); (dsimp only [TOp.size]; first | exact ⟨by omega, by omega⟩ | exact ⟨by omega, by simp only [List.length_nil]; omega⟩))
        · intro h18
          have k18 := ne_of_beqf h18; try simp only [List.length_map] at k18
          refine awp_skip ?_
          refine awp_seq ?_
          refine awp_region ?_
          refine sq_plain rfl rfl rfl (w_loadA 0 rfl (ev_tmp rfl) rfl Tryz.isAgg55 Tryz.sizeOf55 rfl) ?_
          refine sq_storeB0 2 rfl rfl rfl (ev_tmp rfl) (ev_tmp rfl) (as_agg _) rfl Tryz.sizeOf55 rfl ?_
          refine sq_nil ?_
          refine awp_ret ?_
          (refine retG [1] ((x8.1, ⟨1 + x5.2, x8.2, [], 0⟩)) ?_ rfl (by first | (dsimp only; rfl) | rfl) (resR rfl (rv_cell (ys := _) 2 rfl rfl Tryz.isAgg55 Tryz.sizeOf55 rfl)); (dsimp only [TOp.size]; first | exact ⟨by omega, by omega⟩ | exact ⟨by omega, by simp only [List.length_nil]; omega⟩))
  · intro h12
    have k12 := ne_of_beqf h12; try simp only [List.length_map] at k12
    refine awp_region ?_
    refine sq_plain rfl rfl rfl (w_eql rfl (ev_tmp rfl) ev_ci) ?_
    refine sq_plain rfl rfl rfl (w_assign rfl (ev_tmp rfl)) ?_
    refine sq_nil ?_
    refine awp_cond (ev_tmp rfl) ?_ ?_
    · intro h12
      have k12 := eq_of_beqt h12; try simp only [List.length_map] at k12
      refine awp_region ?_
      refine sq_plain rfl rfl rfl (w_move rfl (ev_tmp rfl)) ?_
      refine sq_callG [1] rfl rfl rfl rfl Tryz.call150 rfl (curVal_own _ _ hcode _ (by omega)) (evl_cons (ev_tmp rfl) evl_nil) rfl ?_
      intro x16 ok16
      refine sq_plain rfl rfl rfl (w_fldBn 2 rfl Tryz.underlying55 rfl Tryz.sizeOf9 (ev_tmp rfl) rfl) ?_
      refine sq_storeB1 1 rfl rfl rfl (ev_tmp rfl) (ev_tmp rfl) (as_str _) rfl Tryz.sizeOf9 rfl ?_
      refine sq_nil ?_
      refine awp_seq ?_
      refine awp_region ?_
      refine sq_plain rfl rfl rfl (w_loadA 1 rfl (ev_tmp rfl) rfl Tryz.isAgg55 Tryz.sizeOf55 rfl) ?_
      refine sq_storeB0 2 rfl rfl rfl (ev_tmp rfl) (ev_tmp rfl) (as_agg _) rfl Tryz.sizeOf55 rfl ?_
      refine sq_nil ?_
      refine awp_ret ?_
      (refine retG [0] ((x16.1, ⟨1 + x5.2, x8.2, x16.2, 0⟩)) ?_ rfl (by first | (dsimp only; rfl) | rfl) (resR rfl (rv_cell (ys := _) 2 rfl rfl Tryz.isAgg55 Tryz.sizeOf55 rfl)); (dsimp only [TOp.size]; first | exact ⟨by omega, by omega⟩ | exact ⟨by omega, by simp only [List.length_nil]; omega⟩))
    · intro h12
      have k12 := ne_of_beqf h12; try simp only [List.length_map] at k12
      refine awp_seq ?_
      refine awp_seq ?_
      refine awp_region ?_
      refine sq_plain rfl rfl rfl (w_eql rfl (ev_tmp rfl) ev_ci) ?_
      refine sq_plain rfl rfl rfl (w_assign rfl (ev_tmp rfl)) ?_
      refine sq_nil ?_
      refine awp_cond (ev_tmp rfl) ?_ ?_
      · intro h18
        have k18 := eq_of_beqt h18; try simp only [List.length_map] at k18
        refine awp_skip ?_
        refine awp_cond (ev_tmp rfl) ?_ ?_
        · intro h18
          have k18 := eq_of_beqt h18; try simp only [List.length_map] at k18
          refine awp_region ?_
          refine sq_plain rfl rfl rfl (w_move rfl (ev_tmp rfl)) ?_
          refine sq_plain rfl rfl rfl (w_bslice rfl Tryz.underlying113 Tryz.sizeOf3 Tryz.zeroValue3 rfl rfl rfl rfl (bp_cons ev_ci (as_ik _ _) (bp_cons ev_ci (as_ik _ _) (bp_cons ev_ci (as_ik _ _) (bp_cons ev_ci (as_ik _ _) (bp_cons ev_ci (as_ik _ _) (bp_cons ev_ci (as_ik _ _) bp_nil)))))) rfl rfl) ?_
          refine sq_callG [1] rfl rfl rfl rfl Tryz.call132 rfl (curAmong_own _ _ hcode _ ([(1), (2), (5), (-3), (0), (100)] : List Int) (by decide) (by omega)) (evl_cons (ev_tmp rfl) (evl_cons (ev_tmp rfl) evl_nil)) rfl ?_
          intro x23 ok23
          refine sq_plain rfl rfl rfl (w_fldBn 3 rfl Tryz.underlying55 rfl Tryz.sizeOf3 (ev_tmp rfl) rfl) ?_
          refine sq_storeB1 1 rfl rfl rfl (ev_tmp rfl) (ev_tmp rfl) (as_ik _ _) rfl Tryz.sizeOf3 rfl ?_
          refine sq_nil ?_
          refine awp_seq ?_
          refine awp_region ?_
          refine sq_plain rfl rfl rfl (w_loadA 1 rfl (ev_tmp rfl) rfl Tryz.isAgg55 Tryz.sizeOf55 rfl) ?_
          refine sq_storeB0 2 rfl rfl rfl (ev_tmp rfl) (ev_tmp rfl) (as_agg _) rfl Tryz.sizeOf55 rfl ?_
          refine sq_nil ?_
          refine awp_ret ?_
          (refine retG [0] ((x23.1, ⟨1 + x5.2, x8.2, [], x23.2⟩)) ?_ rfl (by first | (dsimp only; rfl) | rfl) (resR rfl (rv_cell (ys := _) 2 rfl rfl Tryz.isAgg55 Tryz.sizeOf55 rfl)); (dsimp only [TOp.size]; first | exact ⟨by omega, by omega⟩ | exact ⟨by omega, by simp only [List.length_nil]; omega⟩))
        · intro h18
          have k18 := ne_of_beqf h18; try simp only [List.length_map] at k18
          refine awp_skip ?_
          refine awp_seq ?_
          refine awp_region ?_
          refine sq_plain rfl rfl rfl (w_loadA 0 rfl (ev_tmp rfl) rfl Tryz.isAgg55 Tryz.sizeOf55 rfl) ?_
          refine sq_storeB0 2 rfl rfl rfl (ev_tmp rfl) (ev_tmp rfl) (as_agg _) rfl Tryz.sizeOf55 rfl ?_
          refine sq_nil ?_
          refine awp_ret ?_
          (refine retG [1] ((x8.1, ⟨1 + x5.2, x8.2, [], 0⟩)) ?_ rfl (by first | (dsimp only; rfl) | rfl) (resR rfl (rv_cell (ys := _) 2 rfl rfl Tryz.isAgg55 Tryz.sizeOf55 rfl)); (dsimp only [TOp.size]; first | exact ⟨by omega, by omega⟩ | exact ⟨by omega, by simp only [List.length_nil]; omega⟩))
      · intro h18
        have k18 := ne_of_beqf h18; try simp only [List.length_map] at k18
        refine awp_region ?_
        refine sq_plain rfl rfl rfl (w_eql rfl (ev_tmp rfl) ev_ci) ?_
        refine sq_plain rfl rfl rfl (w_assign rfl (ev_tmp rfl)) ?_
        refine sq_nil ?_
        refine awp_cond (ev_tmp rfl) ?_ ?_
        · intro h18
          have k18 := eq_of_beqt h18; try simp only [List.length_map] at k18
          refine awp_region ?_
          refine sq_plain rfl rfl rfl (w_move rfl (ev_tmp rfl)) ?_
          refine sq_plain rfl rfl rfl (w_bslice rfl Tryz.underlying113 Tryz.sizeOf3 Tryz.zeroValue3 rfl rfl rfl rfl (bp_cons ev_ci (as_ik _ _) (bp_cons ev_ci (as_ik _ _) (bp_cons ev_ci (as_ik _ _) (bp_cons ev_ci (as_ik _ _) (bp_cons ev_ci (as_ik _ _) (bp_cons ev_ci (as_ik _ _) bp_nil)))))) rfl rfl) ?_
          refine sq_callG [1] rfl rfl rfl rfl Tryz.call132 rfl (curAmong_own _ _ hcode _ ([(1), (2), (5), (-3), (0), (100)] : List Int) (by decide) (by omega)) (evl_cons (ev_tmp rfl) (evl_cons (ev_tmp rfl) evl_nil)) rfl ?_
          intro x23 ok23
          refine sq_plain rfl rfl rfl (w_fldBn 3 rfl Tryz.underlying55 rfl Tryz.sizeOf3 (ev_tmp rfl) rfl) ?_
          refine sq_storeB1 1 rfl rfl rfl (ev_tmp rfl) (ev_tmp rfl) (as_ik _ _) rfl Tryz.sizeOf3 rfl ?_
          refine sq_nil ?_
          refine awp_seq ?_
          refine awp_region ?_
          refine sq_plain rfl rfl rfl (w_loadA 1 rfl (ev_tmp rfl) rfl Tryz.isAgg55 Tryz.sizeOf55 rfl) ?_
          refine sq_storeB0 2 rfl rfl rfl (ev_tmp rfl) (ev_tmp rfl) (as_agg _) rfl Tryz.sizeOf55 rfl ?_
          refine sq_nil ?_
          refine awp_ret ?_
          (refine retG [0] ((x23.1, ⟨1 + x5.2, x8.2, [], x23.2⟩)) ?_ rfl (by first | (dsimp only; rfl) | rfl) (resR rfl (rv_cell (ys := _) 2 rfl rfl Tryz.isAgg55 Tryz.sizeOf55 rfl)); (dsimp only [TOp.size]; first | exact ⟨by omega, by omega⟩ | exact ⟨by omega, by simp only [List.length_nil]; omega⟩))
        · intro h18
          have k18 := ne_of_beqf h18; try simp only [List.length_map] at k18
          refine awp_skip ?_
          refine awp_seq ?_
          refine awp_region ?_
          refine sq_plain rfl rfl rfl (w_loadA 0 rfl (ev_tmp rfl) rfl Tryz.isAgg55 Tryz.sizeOf55 rfl) ?_
          refine sq_storeB0 2 rfl rfl rfl (ev_tmp rfl) (ev_tmp rfl) (as_agg _) rfl Tryz.sizeOf55 rfl ?_
          refine sq_nil ?_
          refine awp_ret ?_
          (refine retG [1] ((x8.1, ⟨1 + x5.2, x8.2, [], 0⟩)) ?_ rfl (by first | (dsimp only; rfl) | rfl) (resR rfl (rv_cell (ys := _) 2 rfl rfl Tryz.isAgg55 Tryz.sizeOf55 rfl)); (dsimp only [TOp.size]; first | exact ⟨by omega, by omega⟩ | exact ⟨by omega, by simp only [List.length_nil]; omega⟩))
theorem curOps_own (b : Nat) (code : List Int) (hcode : ByteL code) (c : TCur) (hp : c.p ≤ 4000000) : GSpec Tryz.prog 47 [AV.ptr b 0] [.box b 61 (curC code c)] (fun x : TCur × List TOp × Value => x.1.p ≤ c.p + 100 ∧ (1 ≤ x.2.1.length ∧ x.2.1.length ≤ 4) ∧ ∀ o ∈ x.2.1, o.size ≤ 128) (fun x => [.box b 61 (curC code x.1), .arr x.2.2 55 4 (x.2.1.map TOp.cs)]) (fun x => AV.is x.2.2) := by
  refine gspec_of_awp Tryz.func47 rfl Tryz.ntmps47 rfl ?_
  refine awp_seq ?_
  refine awp_region ?_
  refine sq_plain rfl rfl rfl (w_assign rfl ev_cnils) ?_
  refine sq_nil ?_
  refine awp_seq ?_
  refine awp_region ?_
  refine sq_nilarr 55 4 rfl rfl rfl rfl ev_cnils ?_
  intro v3
  refine sq_nil ?_
  refine awp_seq ?_
  refine awp_seq ?_
  refine awp_region ?_
  refine sq_plain rfl rfl rfl (w_move rfl (ev_tmp rfl)) ?_
  refine sq_callG [1] rfl rfl rfl rfl Tryz.call77 rfl (curPick_own _ _ hcode _ _ (by omega) (by omega)) (evl_cons (ev_tmp rfl) (evl_cons ev_ci evl_nil)) rfl ?_
  intro x7 ok7
  obtain ⟨n0, hn0⟩ : ∃ n0 : Nat, x7.2 = n0 := ⟨x7.2.toNat, by omega⟩
  refine sq_plain rfl rfl rfl (w_addi rfl ev_ci (ev_tmp rfl) (by first | omega | ((try simp only [List.length_map, List.length_take, List.length_cons, List.length_nil, chunks_len, szR] at *); omega) | (have hc2 := hc; simp only [Bool.and_eq_true, Bool.or_eq_true, Bool.or_eq_false_iff, Bool.and_eq_false_iff, Bool.not_eq_true', Bool.not_eq_false', decide_eq_true_eq, decide_eq_false_iff_not, beq_iff_eq, bne_iff_ne, List.length_map, List.length_take] at hc2; omega))) ?_
  refine sq_plain rfl rfl rfl (w_assign rfl (ev_tmp rfl)) ?_
  refine sq_nil ?_
  refine awp_block ?_
  refine AWP.le (le_pick [0, 0] rfl) ?_
  refine awp_loop_i4 [(0, _), (2, _)] _ (fun (n : Nat) (cc : TCur) (l : List TOp) (v : Value) => n + l.length = 1 + n0 ∧ cc.p ≤ c.p + 2 + 14 * l.length ∧ ∀ o ∈ l, o.size ≤ 128) (fun (n : Nat) (cc : TCur) (l : List TOp) (v : Value) => [.box b 61 (curC code cc), .arr v 55 4 (l.map TOp.cs)]) (fun (n : Nat) (cc : TCur) (l : List TOp) (v : Value) => [(3, AV.is v), (4, AV.int n)]) (fun (n : Nat) (cc : TCur) (l : List TOp) (v : Value) => n) (1 + n0) (x7.1) ([]) (v3) ?_ (le_eq (by rfl) ⟨rfl, congrArg (fun z => some (AV.int z)) (by omega), rfl, rfl, trivial⟩) ?_
  · exact ⟨rfl, by simp; omega, fun o h => by cases h⟩
  intro n cc l v hinv
  refine awp_seq ?_
  refine awp_seq ?_
  refine awp_region ?_
  refine sq_plain rfl rfl rfl (w_move rfl (ev_tmp rfl)) ?_
  refine sq_plain rfl rfl rfl (w_gtr rfl (ev_tmp rfl) ev_ci) ?_
  refine sq_nil ?_
  refine awp_cond (ev_tmp rfl) ?_ ?_
  · intro h10
    have k10 := of_decide_eq_true h10; try simp only [List.length_map] at k10
    have hn1 : 1 ≤ n := by omega
    have hll : l.length ≤ 4 := by omega
    refine awp_skip ?_
    refine awp_seq ?_
    refine awp_block ?_
    refine awp_seq ?_
    refine awp_region ?_
    refine sq_plain rfl rfl rfl (w_move rfl (ev_tmp rfl)) ?_
    refine sq_callG [0] rfl rfl rfl rfl Tryz.call103 rfl (curOp_own _ _ hcode _ (by omega)) (evl_cons (ev_tmp rfl) evl_nil) rfl ?_
    intro x14 ok14
    refine sq_alloc rfl rfl rfl rfl Tryz.zeroValue55 rfl ?_
    intro b5
    refine sq_storeB0 0 rfl rfl rfl (ev_tmp rfl) (ev_tmp rfl) (as_agg _) rfl Tryz.sizeOf55 rfl ?_
    refine sq_nil ?_
    refine awp_seq ?_
    refine awp_seq ?_
    refine awp_region ?_
    refine sq_plain rfl rfl rfl (w_fldBn 0 rfl Tryz.underlying55 rfl Tryz.sizeOf3 (ev_tmp rfl) rfl) ?_
    refine sq_plain rfl rfl rfl (w_loadB1 0 rfl (ev_tmp rfl) rfl Tryz.isAgg3 rfl) ?_
    refine sq_plain rfl rfl rfl (w_eql rfl (ev_tmp rfl) ev_ci) ?_
    refine sq_plain rfl rfl rfl (w_move rfl (ev_tmp rfl)) ?_
    refine sq_grd rfl rfl (guard_f rfl rfl rfl) (fun hc => w_fldBn 0 rfl Tryz.underlying55 rfl Tryz.sizeOf3 (ev_tmp rfl) rfl) ?_
    refine sq_grd rfl rfl (guard_f rfl rfl rfl) (fun hc => w_loadB1 0 rfl (ev_whn rfl hc) rfl Tryz.isAgg3 rfl) ?_
    refine sq_grd rfl rfl (guard_f rfl rfl rfl) (fun hc => w_eql rfl (ev_whn rfl hc) ev_ci) ?_
    refine sq_plain rfl rfl rfl (w_or rfl (ev_tmp rfl) (evif_w rfl)) ?_
    refine sq_plain rfl rfl rfl (w_move rfl (ev_tmp rfl)) ?_
    refine sq_grd rfl rfl (guard_f rfl rfl rfl) (fun hc => w_fldBn 0 rfl Tryz.underlying55 rfl Tryz.sizeOf3 (ev_tmp rfl) rfl) ?_
    refine sq_grd rfl rfl (guard_f rfl rfl rfl) (fun hc => w_loadB1 0 rfl (ev_whn rfl hc) rfl Tryz.isAgg3 rfl) ?_
    refine sq_grd rfl rfl (guard_f rfl rfl rfl) (fun hc => w_eql rfl (ev_whn rfl hc) ev_ci) ?_
    refine sq_plain rfl rfl rfl (w_or rfl (ev_tmp rfl) (evif_w rfl)) ?_
    refine sq_plain rfl rfl rfl (w_move rfl (ev_tmp rfl)) ?_
    refine sq_grd rfl rfl (guard_t rfl rfl rfl) (fun hc => w_move rfl (ev_tmp rfl)) ?_
    refine sq_gcase rfl rfl (guard_t rfl rfl rfl) ?_ ?_
    · intro gh30
      refine sq_callG [1] rfl rfl rfl rfl Tryz.call48 rfl (curOne_own _ _ hcode _ _ (by omega) (by omega)) (evl_cons (ev_whn rfl gh30) (evl_cons ev_ci evl_nil)) rfl ?_
      intro x30 ok30
      refine sq_grd rfl rfl (guard_t rfl rfl rfl) (fun hc => w_not rfl (ev_tmp rfl)) ?_
      refine sq_plain rfl rfl rfl (w_and rfl (ev_tmp rfl) (evif_w rfl)) ?_
      refine sq_nil ?_
      refine awp_cond (ev_tmp rfl) ?_ ?_
      · intro h32
        refine AWP.le (le_pick [1, 1, 0] rfl) ?_
        refine awp_region_mix _ [(0, false), (1, false), (2, false), (3, true), (4, false)] (by kernel_rfl) (by kernel_rfl) rfl (invx_take 2) ?_
        refine bc_plain rfl rfl rfl (fun ext => w_fldBn 1 rfl Tryz.underlying55 rfl Tryz.sizeOf9 (ev_tmp rfl) rfl) ?_
        refine bc_plain rfl rfl rfl (fun ext => w_loadB1 0 rfl (ev_tmp rfl) rfl Tryz.isAgg9 rfl) ?_
        refine bc_plain rfl rfl rfl (fun ext => w_move rfl (ev_tmp rfl)) ?_
        refine bc_eff rfl rfl rfl (opE_call [2] rfl Tryz.call77 rfl (curPick_own _ _ hcode _ _ (by omega) (by omega)) (evl_cons (ev_tmp rfl) (evl_cons ev_ci evl_nil)) rfl) (fun a _ => (by first | exact invx_mk rfl | exact invx_mk (List.append_assoc _ _ _) | exact invx_all)) ?_
        intro x36 ok36
        refine bc_plain rfl rfl rfl (fun ext => w_addi rfl ev_ci (ev_tmp rfl) (by first | omega | ((try simp only [List.length_map, List.length_take, List.length_cons, List.length_nil, chunks_len, szR] at *); omega) | (have hc2 := hc; simp only [Bool.and_eq_true, Bool.or_eq_true, Bool.or_eq_false_iff, Bool.and_eq_false_iff, Bool.not_eq_true', Bool.not_eq_false', decide_eq_true_eq, decide_eq_false_iff_not, beq_iff_eq, bne_iff_ne, List.length_map, List.length_take] at hc2; omega))) ?_
        refine bc_nil ?_
        refine sq_plain rfl rfl rfl (w_build (places := #[(0, 1), (1, 1), (2, 1), (3, 1)]) rfl Tryz.underlying55 Tryz.zeroValue55 (fun w => by kernel_rfl) rfl (bp_cons ev_ci (as_ik _ _) (bp_cons (ev_tmp rfl) (as_str _) (bp_cons (ev_tmp rfl) (as_ik _ _) bp_nil))) rfl) ?_
        refine sq_storeB0 0 rfl rfl rfl (ev_tmp rfl) (ev_tmp rfl) (as_agg _) rfl Tryz.sizeOf55 rfl ?_
        refine sq_nil ?_
        refine awp_region ?_
        refine sq_plain rfl rfl rfl (w_move rfl (ev_tmp rfl)) ?_
        refine sq_plain rfl rfl rfl (w_loadA 0 rfl (ev_tmp rfl) rfl Tryz.isAgg55 Tryz.sizeOf55 rfl) ?_
        refine sq_plain rfl rfl rfl (w_bslice rfl Tryz.underlying24 Tryz.sizeOf55 Tryz.zeroValue55 rfl rfl rfl rfl (bp_cons (ev_tmp rfl) (as_agg _) bp_nil) rfl rfl) ?_
        refine sq_append (by' := 48) 1 rfl rfl rfl rfl Tryz.underlying24 Tryz.type55 rfl rfl rfl rfl rfl rfl (ev_tmp rfl) (ev_tmp rfl) rfl (by first | omega | ((try simp only [List.length_map, List.length_take, List.length_cons, List.length_nil, chunks_len, szR] at *); omega) | (have hc2 := hc; simp only [Bool.and_eq_true, Bool.or_eq_true, Bool.or_eq_false_iff, Bool.and_eq_false_iff, Bool.not_eq_true', Bool.not_eq_false', decide_eq_true_eq, decide_eq_false_iff_not, beq_iff_eq, bne_iff_ne, List.length_map, List.length_take] at hc2; omega)) ?_
        intro v42_1
        refine sq_plain rfl rfl rfl (w_assign rfl (ev_tmp rfl)) ?_
        refine sq_nil ?_
        refine awp_region ?_
        refine sq_plain rfl rfl rfl (w_move rfl (ev_tmp rfl)) ?_
        refine sq_plain rfl rfl rfl (w_subi rfl (ev_tmp rfl) ev_ci (by first | omega | ((try simp only [List.length_map, List.length_take, List.length_cons, List.length_nil, chunks_len, szR] at *); omega) | (have hc2 := hc; simp only [Bool.and_eq_true, Bool.or_eq_true, Bool.or_eq_false_iff, Bool.and_eq_false_iff, Bool.not_eq_true', Bool.not_eq_false', decide_eq_true_eq, decide_eq_false_iff_not, beq_iff_eq, bne_iff_ne, List.length_map, List.length_take] at hc2; omega))) ?_
        refine sq_plain rfl rfl rfl (w_assign rfl (ev_tmp rfl)) ?_
        refine sq_nil ?_
        refine round_end4 n cc l v (n - 1) (x36.1) (l ++ [⟨4, x14.2.Key, [], 1 + x36.2⟩]) (v42_1) ?_ ?_ (Le.trans (le_pick [0, 1, 0] rfl) (le_dropeq 1 (by first | exact congrArg (fun z => [Own.box _ _ _, Own.arr _ 55 4 z]) (by rw [List.map_append]; rfl) | exact absurd h32 (by simp)) ⟨rfl, congrArg (fun z => some (AV.int z)) (by omega), rfl, rfl, trivial⟩))
        · exact ⟨by rw [List.length_append, List.length_cons, List.length_nil]; omega, by rw [List.length_append, List.length_cons, List.length_nil]; omega, fun o ho => (List.mem_append.1 ho).elim (hinv.2.2 o) fun e => by (rw [List.mem_singleton.1 e]; have h9 := ok14.2; unfold TOp.size at h9 ⊢; simp only [List.length_nil]; omega)⟩
        · omega
      · intro h32
        refine awp_skip ?_
        refine awp_region ?_
        refine sq_plain rfl rfl rfl (w_move rfl (ev_tmp rfl)) ?_
        refine sq_plain rfl rfl rfl (w_loadA 1 rfl (ev_tmp rfl) rfl Tryz.isAgg55 Tryz.sizeOf55 rfl) ?_
        refine sq_plain rfl rfl rfl (w_bslice rfl Tryz.underlying24 Tryz.sizeOf55 Tryz.zeroValue55 rfl rfl rfl rfl (bp_cons (ev_tmp rfl) (as_agg _) bp_nil) rfl rfl) ?_
        refine sq_append (by' := 48) 2 rfl rfl rfl rfl Tryz.underlying24 Tryz.type55 rfl rfl rfl rfl rfl rfl (ev_tmp rfl) (ev_tmp rfl) rfl (by first | omega | ((try simp only [List.length_map, List.length_take, List.length_cons, List.length_nil, chunks_len, szR] at *); omega) | (have hc2 := hc; simp only [Bool.and_eq_true, Bool.or_eq_true, Bool.or_eq_false_iff, Bool.and_eq_false_iff, Bool.not_eq_true', Bool.not_eq_false', decide_eq_true_eq, decide_eq_false_iff_not, beq_iff_eq, bne_iff_ne, List.length_map, List.length_take] at hc2; omega)) ?_
        intro v42_2
        refine sq_plain rfl rfl rfl (w_assign rfl (ev_tmp rfl)) ?_
        refine sq_nil ?_
        refine awp_region ?_
        refine sq_plain rfl rfl rfl (w_move rfl (ev_tmp rfl)) ?_
        refine sq_plain rfl rfl rfl (w_subi rfl (ev_tmp rfl) ev_ci (by first | omega | ((try simp only [List.length_map, List.length_take, List.length_cons, List.length_nil, chunks_len, szR] at *); omega) | (have hc2 := hc; simp only [Bool.and_eq_true, Bool.or_eq_true, Bool.or_eq_false_iff, Bool.and_eq_false_iff, Bool.not_eq_true', Bool.not_eq_false', decide_eq_true_eq, decide_eq_false_iff_not, beq_iff_eq, bne_iff_ne, List.length_map, List.length_take] at hc2; omega))) ?_
        refine sq_plain rfl rfl rfl (w_assign rfl (ev_tmp rfl)) ?_
        refine sq_nil ?_
        refine round_end4 n cc l v (n - 1) (x30.1) (l ++ [x14.2]) (v42_2) ?_ ?_ (Le.trans (le_pick [1, 0, 0] rfl) (le_dropeq 1 (by first | exact congrArg (fun z => [Own.box _ _ _, Own.arr _ 55 4 z]) (by rw [List.map_append]; rfl) | exact absurd h32 (by simp)) ⟨rfl, congrArg (fun z => some (AV.int z)) (by omega), rfl, rfl, trivial⟩))
        · exact ⟨by rw [List.length_append, List.length_cons, List.length_nil]; omega, by rw [List.length_append, List.length_cons, List.length_nil]; omega, fun o ho => (List.mem_append.1 ho).elim (hinv.2.2 o) fun e => by rw [List.mem_singleton.1 e]; exact ok14.2⟩
        · omega
    · intro gh30
      refine sq_gcase rfl rfl (guard_t rfl rfl rfl) (fun hq => by rw [gh30] at hq; cases hq) (fun _ => ?_)
      refine sq_plain rfl rfl rfl (w_and rfl (ev_tmp rfl) (evif_no (x := AV.bool false) gh30)) ?_
      refine sq_nil ?_
      refine awp_cond (ev_tmp rfl) ?_ ?_
      · intro h32
        refine AWP.le (le_pick [0, 1, 0] rfl) ?_
        refine awp_region_mix _ [(0, false), (1, false), (2, false), (3, true), (4, false)] (by kernel_rfl) (by kernel_rfl) rfl (invx_take 2) ?_
        refine bc_plain rfl rfl rfl (fun ext => w_fldBn 1 rfl Tryz.underlying55 rfl Tryz.sizeOf9 (ev_tmp rfl) rfl) ?_
        refine bc_plain rfl rfl rfl (fun ext => w_loadB1 0 rfl (ev_tmp rfl) rfl Tryz.isAgg9 rfl) ?_
        refine bc_plain rfl rfl rfl (fun ext => w_move rfl (ev_tmp rfl)) ?_
        refine bc_eff rfl rfl rfl (opE_call [2] rfl Tryz.call77 rfl (curPick_own _ _ hcode _ _ (by omega) (by omega)) (evl_cons (ev_tmp rfl) (evl_cons ev_ci evl_nil)) rfl) (fun a _ => (by first | exact invx_mk rfl | exact invx_mk (List.append_assoc _ _ _) | exact invx_all)) ?_
        intro x36 ok36
        refine bc_plain rfl rfl rfl (fun ext => w_addi rfl ev_ci (ev_tmp rfl) (by first | omega | ((try simp only [List.length_map, List.length_take, List.length_cons, List.length_nil, chunks_len, szR] at *); omega) | (have hc2 := hc; simp only [Bool.and_eq_true, Bool.or_eq_true, Bool.or_eq_false_iff, Bool.and_eq_false_iff, Bool.not_eq_true', Bool.not_eq_false', decide_eq_true_eq, decide_eq_false_iff_not, beq_iff_eq, bne_iff_ne, List.length_map, List.length_take] at hc2; omega))) ?_
        refine bc_nil ?_
        refine sq_plain rfl rfl rfl (w_build (places := #[(0, 1), (1, 1), (2, 1), (3, 1)]) rfl Tryz.underlying55 Tryz.zeroValue55 (fun w => by kernel_rfl) rfl (bp_cons ev_ci (as_ik _ _) (bp_cons (ev_tmp rfl) (as_str _) (bp_cons (ev_tmp rfl) (as_ik _ _) bp_nil))) rfl) ?_
        refine sq_storeB0 0 rfl rfl rfl (ev_tmp rfl) (ev_tmp rfl) (as_agg _) rfl Tryz.sizeOf55 rfl ?_
        refine sq_nil ?_
        refine awp_region ?_
        refine sq_plain rfl rfl rfl (w_move rfl (ev_tmp rfl)) ?_
        refine sq_plain rfl rfl rfl (w_loadA 0 rfl (ev_tmp rfl) rfl Tryz.isAgg55 Tryz.sizeOf55 rfl) ?_
        refine sq_plain rfl rfl rfl (w_bslice rfl Tryz.underlying24 Tryz.sizeOf55 Tryz.zeroValue55 rfl rfl rfl rfl (bp_cons (ev_tmp rfl) (as_agg _) bp_nil) rfl rfl) ?_
        refine sq_append (by' := 48) 1 rfl rfl rfl rfl Tryz.underlying24 Tryz.type55 rfl rfl rfl rfl rfl rfl (ev_tmp rfl) (ev_tmp rfl) rfl (by first | omega | ((try simp only [List.length_map, List.length_take, List.length_cons, List.length_nil, chunks_len, szR] at *); omega) | (have hc2 := hc; simp only [Bool.and_eq_true, Bool.or_eq_true, Bool.or_eq_false_iff, Bool.and_eq_false_iff, Bool.not_eq_true', Bool.not_eq_false', decide_eq_true_eq, decide_eq_false_iff_not, beq_iff_eq, bne_iff_ne, List.length_map, List.length_take] at hc2; omega)) ?_
        intro v42_3
        refine sq_plain rfl rfl rfl (w_assign rfl (ev_tmp rfl)) ?_
        refine sq_nil ?_
        refine awp_region ?_
        refine sq_plain rfl rfl rfl (w_move rfl (ev_tmp rfl)) ?_
        refine sq_plain rfl rfl rfl (w_subi rfl (ev_tmp rfl) ev_ci (by first | omega | ((try simp only [List.length_map, List.length_take, List.length_cons, List.length_nil, chunks_len, szR] at *); omega) | (have hc2 := hc; simp only [Bool.and_eq_true, Bool.or_eq_true, Bool.or_eq_false_iff, Bool.and_eq_false_iff, Bool.not_eq_true', Bool.not_eq_false', decide_eq_true_eq, decide_eq_false_iff_not, beq_iff_eq, bne_iff_ne, List.length_map, List.length_take] at hc2; omega))) ?_
        refine sq_plain rfl rfl rfl (w_assign rfl (ev_tmp rfl)) ?_
        refine sq_nil ?_
        refine round_end4 n cc l v (n - 1) (x14.1) (l ++ [x14.2]) (v42_3) ?_ ?_ (Le.trans (le_pick [0, 1, 0] rfl) (le_dropeq 1 (by first | exact congrArg (fun z => [Own.box _ _ _, Own.arr _ 55 4 z]) (by rw [List.map_append]; rfl) | exact absurd h32 (by simp)) ⟨rfl, congrArg (fun z => some (AV.int z)) (by omega), rfl, rfl, trivial⟩))
        · exact ⟨by rw [List.length_append, List.length_cons, List.length_nil]; omega, by rw [List.length_append, List.length_cons, List.length_nil]; omega, fun o ho => (List.mem_append.1 ho).elim (hinv.2.2 o) fun e => by rw [List.mem_singleton.1 e]; exact ok14.2⟩
        · omega
      · intro h32
        refine awp_skip ?_
        refine awp_region ?_
        refine sq_plain rfl rfl rfl (w_move rfl (ev_tmp rfl)) ?_
        refine sq_plain rfl rfl rfl (w_loadA 0 rfl (ev_tmp rfl) rfl Tryz.isAgg55 Tryz.sizeOf55 rfl) ?_
        refine sq_plain rfl rfl rfl (w_bslice rfl Tryz.underlying24 Tryz.sizeOf55 Tryz.zeroValue55 rfl rfl rfl rfl (bp_cons (ev_tmp rfl) (as_agg _) bp_nil) rfl rfl) ?_
        refine sq_append (by' := 48) 2 rfl rfl rfl rfl Tryz.underlying24 Tryz.type55 rfl rfl rfl rfl rfl rfl (ev_tmp rfl) (ev_tmp rfl) rfl (by first | omega | ((try simp only [List.length_map, List.length_take, List.length_cons, List.length_nil, chunks_len, szR] at *); omega) | (have hc2 := hc; simp only [Bool.and_eq_true, Bool.or_eq_true, Bool.or_eq_false_iff, Bool.and_eq_false_iff, Bool.not_eq_true', Bool.not_eq_false', decide_eq_true_eq, decide_eq_false_iff_not, beq_iff_eq, bne_iff_ne, List.length_map, List.length_take] at hc2; omega)) ?_
        intro v42_4
        refine sq_plain rfl rfl rfl (w_assign rfl (ev_tmp rfl)) ?_
        refine sq_nil ?_
        refine awp_region ?_
        refine sq_plain rfl rfl rfl (w_move rfl (ev_tmp rfl)) ?_
        refine sq_plain rfl rfl rfl (w_subi rfl (ev_tmp rfl) ev_ci (by first | omega | ((try simp only [List.length_map, List.length_take, List.length_cons, List.length_nil, chunks_len, szR] at *); omega) | (have hc2 := hc; simp only [Bool.and_eq_true, Bool.or_eq_true, Bool.or_eq_false_iff, Bool.and_eq_false_iff, Bool.not_eq_true', Bool.not_eq_false', decide_eq_true_eq, decide_eq_false_iff_not, beq_iff_eq, bne_iff_ne, List.length_map, List.length_take] at hc2; omega))) ?_
        refine sq_plain rfl rfl rfl (w_assign rfl (ev_tmp rfl)) ?_
        refine sq_nil ?_
        refine round_end4 n cc l v (n - 1) (x14.1) (l ++ [x14.2]) (v42_4) ?_ ?_ (Le.trans (le_pick [0, 0, 0] rfl) (le_dropeq 1 (by first | exact congrArg (fun z => [Own.box _ _ _, Own.arr _ 55 4 z]) (by rw [List.map_append]; rfl) | exact absurd h32 (by simp)) ⟨rfl, congrArg (fun z => some (AV.int z)) (by omega), rfl, rfl, trivial⟩))
        · exact ⟨by rw [List.length_append, List.length_cons, List.length_nil]; omega, by rw [List.length_append, List.length_cons, List.length_nil]; omega, fun o ho => (List.mem_append.1 ho).elim (hinv.2.2 o) fun e => by rw [List.mem_singleton.1 e]; exact ok14.2⟩
        · omega
  · intro h10
    have k10 := of_decide_eq_false h10; try simp only [List.length_map] at k10
    refine awp_exit ?_
    refine awp_seq ?_
    refine awp_region ?_
    refine sq_plain rfl rfl rfl (w_move rfl (ev_tmp rfl)) ?_
    refine sq_plain rfl rfl rfl (w_assign rfl (ev_tmp rfl)) ?_
    refine sq_nil ?_
    refine awp_ret ?_
    (refine retG [0, 0] ((cc, l, v)) ?_ rfl (by first | (dsimp only; rfl) | rfl) (resR rfl (rv_tmp' rfl (by rfl))); exact ⟨show cc.p ≤ _ by omega, ⟨show 1 ≤ l.length by omega, show l.length ≤ 4 by omega⟩, hinv.2.2⟩)
theorem part_at {α : Type} {l : List α} {k : Nat} (h : k < l.length) : ∃ A x B, l = A ++ x :: B ∧ A.length = k :=
  ⟨l.take k, l[k], l.drop (k + 1), by rw [List.getElem_cons_drop, List.take_append_drop], by rw [List.length_take]; omega⟩
theorem sz_part {A B : List TOp} {x y : TOp} {m : Nat} (h : ∀ o ∈ A ++ x :: B, o.size ≤ m) (hy : y.size ≤ m) : ∀ o ∈ A ++ y :: B, o.size ≤ m := fun o ho => by
  rcases List.mem_append.1 ho with ho | ho
  · exact h o (List.mem_append_left _ ho)
  · rcases List.mem_cons.1 ho with rfl | ho
    · exact hy
    · exact h o (List.mem_append_right _ (List.mem_cons_of_mem _ ho))
theorem curAnyOps_own (b : Nat) (code : List Int) (hcode : ByteL code) (c : TCur) (hp : c.p ≤ 3000000) : GSpec Tryz.prog 92 [AV.ptr b 0] [.box b 61 (curC code c)] (fun x : TCur × List TOp × Value => x.1.p ≤ c.p + 400 ∧ x.2.1.length ≤ 9 ∧ ∀ o ∈ x.2.1, o.size ≤ 129) (fun x => [.box b 61 (curC code x.1), .arr x.2.2 55 4 (x.2.1.map TOp.cs)]) (fun x => AV.is x.2.2) := by
  refine gspec_of_awp Tryz.func92 rfl Tryz.ntmps92 rfl ?_
  refine awp_seq ?_
  refine awp_region ?_
  refine sq_plain rfl rfl rfl (w_assign rfl ev_cnils) ?_
  refine sq_nil ?_
  refine awp_seq ?_
  refine awp_region ?_
  refine sq_plain rfl rfl rfl (w_move rfl (ev_tmp rfl)) ?_
  refine sq_callG [0] rfl rfl rfl rfl Tryz.call47 rfl (curOps_own _ _ hcode _ (by omega)) (evl_cons (ev_tmp rfl) evl_nil) rfl ?_
  intro x6 ok6
  have hsz6 : ∀ o ∈ x6.2.1, o.size ≤ 129 := fun o ho => Nat.le_trans (ok6.2.2 o ho) (by decide)
  refine sq_plain rfl rfl rfl (w_assign rfl (ev_tmp rfl)) ?_
  refine sq_nil ?_
  refine awp_seq ?_
  refine awp_region ?_
  refine sq_plain rfl rfl rfl (w_move rfl (ev_tmp rfl)) ?_
  refine sq_plain rfl rfl rfl (w_move rfl (ev_tmp rfl)) ?_
  refine sq_plain rfl rfl rfl (w_alen 1 rfl Tryz.underlying24 (ev_tmp rfl) rfl) ?_
  refine sq_callG [0] rfl rfl rfl rfl Tryz.call77 rfl (curPick_own _ _ hcode _ _ (by rw [List.length_map]; omega) (by omega)) (evl_cons (ev_tmp rfl) (evl_cons (ev_tmp rfl) evl_nil)) rfl ?_
  intro x10 ok10
  rw [List.length_map] at ok10
  obtain ⟨k, hk⟩ : ∃ k : Nat, x10.2 = k := ⟨x10.2.toNat, by omega⟩
  have hkl : k < x6.2.1.length := by omega
  obtain ⟨A, xo, B, hl, hA⟩ := part_at hkl
  have hA2 : (A.map TOp.cs).length = k := by (rw [List.length_map]; exact hA)
  rw [hk]
  rw [hl] at hsz6
  have hxs : xo.size ≤ 128 := ok6.2.2 xo (by rw [hl]; simp)
  have hln : (A ++ xo :: B).length ≤ 4 := by (rw [← hl]; omega)
  refine sq_plain rfl rfl rfl (w_assign rfl (ev_tmp rfl)) ?_
  refine sq_nil ?_
  refine awp_seq ?_
  refine awp_seq ?_
  refine awp_region ?_
  refine sq_plain rfl rfl rfl (w_move rfl (ev_tmp rfl)) ?_
  refine sq_callG [0] rfl rfl rfl rfl Tryz.call77 rfl (curPick_own _ _ hcode _ _ (by omega) (by omega)) (evl_cons (ev_tmp rfl) (evl_cons ev_ci evl_nil)) rfl ?_
  intro x12 ok12
  refine sq_nil ?_
  refine awp_block ?_
  refine awp_seq ?_
  refine awp_region ?_
  refine sq_plain rfl rfl rfl (w_eql rfl (ev_tmp rfl) ev_ci) ?_
  refine sq_plain rfl rfl rfl (w_assign rfl (ev_tmp rfl)) ?_
  refine sq_nil ?_
  refine awp_cond (ev_tmp rfl) ?_ ?_
  · intro h13
    have k13 := eq_of_beqt h13; try simp only [List.length_map] at k13
    rw [hl, List.map_append, List.map_cons]
    refine awp_region ?_
    refine sq_plain rfl rfl rfl (w_move rfl (ev_tmp rfl)) ?_
    refine sq_plain rfl rfl rfl (w_move rfl (ev_tmp rfl)) ?_
    refine sq_plain rfl rfl rfl (w_move rfl (ev_tmp rfl)) ?_
    refine sq_plain rfl rfl rfl (w_bslice rfl Tryz.underlying113 Tryz.sizeOf3 Tryz.zeroValue3 rfl rfl rfl rfl (bp_cons ev_ci (as_ik _ _) (bp_cons ev_ci (as_ik _ _) bp_nil)) rfl rfl) ?_
    refine sq_callG [0] rfl rfl rfl rfl Tryz.call132 rfl (curAmong_own _ _ hcode _ ([(0), (8)] : List Int) (by decide) (by omega)) (evl_cons (ev_tmp rfl) (evl_cons (ev_tmp rfl) evl_nil)) rfl ?_
    intro x19 ok19
    refine sq_plain rfl rfl rfl (w_aidx 1 rfl Tryz.underlying24 Tryz.sizeOf55 (ev_tmp rfl) rfl (ev_tmp rfl) (by omega) (by first | omega | (rw [List.length_append, List.length_cons]; omega))) ?_
    refine sq_plain rfl rfl rfl (w_fldX 1 rfl Tryz.underlying55 rfl Tryz.sizeOf3 (ev_tmp rfl) rfl rfl (app_get hA2)) ?_
    refine sq_storeXA 1 rfl rfl rfl (ev_tmp rfl) (ev_tmp rfl) (as_ik _ _) rfl Tryz.sizeOf3 hA2 rfl ?_
    refine sq_nil ?_
    refine awp_seq ?_
    refine awp_region ?_
    refine sq_plain rfl rfl rfl (w_move rfl (ev_tmp rfl)) ?_
    refine sq_plain rfl rfl rfl (w_assign rfl (ev_tmp rfl)) ?_
    refine sq_nil ?_
    refine awp_ret ?_
    (refine retG [0, 0] ((x19.1, A ++ ⟨x19.2, xo.Key, xo.Val, xo.By⟩ :: B, x6.2.2)) ?_ rfl (by first | rfl | (rw [List.map_append]; rfl)) (resR rfl (rv_tmp' rfl (by rfl))); (dsimp only; first | exact ⟨by omega, by omega, hinv.2.2⟩ | exact ⟨by omega, by omega, by rw [hl]; exact hsz6⟩ | exact ⟨by omega, by simp only [List.length_append, List.length_cons] at hln ⊢; omega, sz_part hsz6 (by unfold TOp.size at hxs ⊢; simp only [List.length_cons, List.length_nil] at *; omega)⟩))
  · intro h13
    have k13 := ne_of_beqf h13; try simp only [List.length_map] at k13
    refine awp_seq ?_
    refine awp_region ?_
    refine sq_plain rfl rfl rfl (w_eql rfl (ev_tmp rfl) ev_ci) ?_
    refine sq_plain rfl rfl rfl (w_assign rfl (ev_tmp rfl)) ?_
    refine sq_nil ?_
    refine awp_cond (ev_tmp rfl) ?_ ?_
    · intro h22
      have k22 := eq_of_beqt h22; try simp only [List.length_map] at k22
      rw [hl, List.map_append, List.map_cons]
      refine awp_region ?_
      refine sq_plain rfl rfl rfl (w_move rfl (ev_tmp rfl)) ?_
      refine sq_plain rfl rfl rfl (w_move rfl (ev_tmp rfl)) ?_
      refine sq_plain rfl rfl rfl (w_move rfl (ev_tmp rfl)) ?_
      refine sq_plain rfl rfl rfl (w_bslice rfl Tryz.underlying113 Tryz.sizeOf3 Tryz.zeroValue3 rfl rfl rfl rfl (bp_cons ev_ci (as_ik _ _) (bp_cons ev_ci (as_ik _ _) (bp_cons ev_ci (as_ik _ _) bp_nil))) rfl rfl) ?_
      refine sq_callG [0] rfl rfl rfl rfl Tryz.call132 rfl (curAmong_own _ _ hcode _ ([(9999), (10000), (-10000)] : List Int) (by decide) (by omega)) (evl_cons (ev_tmp rfl) (evl_cons (ev_tmp rfl) evl_nil)) rfl ?_
      intro x28 ok28
      refine sq_plain rfl rfl rfl (w_aidx 1 rfl Tryz.underlying24 Tryz.sizeOf55 (ev_tmp rfl) rfl (ev_tmp rfl) (by omega) (by first | omega | (rw [List.length_append, List.length_cons]; omega))) ?_
      refine sq_plain rfl rfl rfl (w_fldX 1 rfl Tryz.underlying55 rfl Tryz.sizeOf3 (ev_tmp rfl) rfl rfl (app_get hA2)) ?_
      refine sq_storeXA 1 rfl rfl rfl (ev_tmp rfl) (ev_tmp rfl) (as_ik _ _) rfl Tryz.sizeOf3 hA2 rfl ?_
      refine sq_nil ?_
      refine awp_seq ?_
      refine awp_region ?_
      refine sq_plain rfl rfl rfl (w_move rfl (ev_tmp rfl)) ?_
      refine sq_plain rfl rfl rfl (w_assign rfl (ev_tmp rfl)) ?_
      refine sq_nil ?_
      refine awp_ret ?_
      (refine retG [0, 0] ((x28.1, A ++ ⟨xo.Kind, xo.Key, xo.Val, x28.2⟩ :: B, x6.2.2)) ?_ rfl (by first | rfl | (rw [List.map_append]; rfl)) (resR rfl (rv_tmp' rfl (by rfl))); (dsimp only; first | exact ⟨by omega, by omega, hinv.2.2⟩ | exact ⟨by omega, by omega, by rw [hl]; exact hsz6⟩ | exact ⟨by omega, by simp only [List.length_append, List.length_cons] at hln ⊢; omega, sz_part hsz6 (by unfold TOp.size at hxs ⊢; simp only [List.length_cons, List.length_nil] at *; omega)⟩))
    · intro h22
      have k22 := ne_of_beqf h22; try simp only [List.length_map] at k22
      refine awp_seq ?_
      refine awp_region ?_
      refine sq_plain rfl rfl rfl (w_eql rfl (ev_tmp rfl) ev_ci) ?_
      refine sq_plain rfl rfl rfl (w_assign rfl (ev_tmp rfl)) ?_
      refine sq_nil ?_
      refine awp_cond (ev_tmp rfl) ?_ ?_
      · intro h31
        have k31 := eq_of_beqt h31; try simp only [List.length_map] at k31
        rw [hl, List.map_append, List.map_cons]
        refine awp_region ?_
        refine sq_plain rfl rfl rfl (w_move rfl (ev_tmp rfl)) ?_
        refine sq_plain rfl rfl rfl (w_move rfl (ev_tmp rfl)) ?_
        refine sq_plain rfl rfl rfl (w_aidx 1 rfl Tryz.underlying24 Tryz.sizeOf55 (ev_tmp rfl) rfl (ev_tmp rfl) (by omega) (by first | omega | (rw [List.length_append, List.length_cons]; omega))) ?_
        refine sq_plain rfl rfl rfl (w_fldX 1 rfl Tryz.underlying55 rfl Tryz.sizeOf9 (ev_tmp rfl) rfl rfl (app_get hA2)) ?_
        refine sq_storeXA 1 rfl rfl rfl (ev_tmp rfl) (ev_cs' (l := [65]) rfl) (as_str _) rfl Tryz.sizeOf9 hA2 rfl ?_
        refine sq_nil ?_
        refine awp_seq ?_
        refine awp_region ?_
        refine sq_plain rfl rfl rfl (w_move rfl (ev_tmp rfl)) ?_
        refine sq_plain rfl rfl rfl (w_assign rfl (ev_tmp rfl)) ?_
        refine sq_nil ?_
        refine awp_ret ?_
        (refine retG [0, 0] ((x12.1, A ++ ⟨xo.Kind, [65], xo.Val, xo.By⟩ :: B, x6.2.2)) ?_ rfl (by first | rfl | (rw [List.map_append]; rfl)) (resR rfl (rv_tmp' rfl (by rfl))); (dsimp only; first | exact ⟨by omega, by omega, hinv.2.2⟩ | exact ⟨by omega, by omega, by rw [hl]; exact hsz6⟩ | exact ⟨by omega, by simp only [List.length_append, List.length_cons] at hln ⊢; omega, sz_part hsz6 (by unfold TOp.size at hxs ⊢; simp only [List.length_cons, List.length_nil] at *; omega)⟩))
      · intro h31
        have k31 := ne_of_beqf h31; try simp only [List.length_map] at k31
        refine awp_seq ?_
        refine awp_region ?_
        refine sq_plain rfl rfl rfl (w_eql rfl (ev_tmp rfl) ev_ci) ?_
        refine sq_plain rfl rfl rfl (w_assign rfl (ev_tmp rfl)) ?_
        refine sq_nil ?_
        refine awp_cond (ev_tmp rfl) ?_ ?_
        · intro h37
          have k37 := eq_of_beqt h37; try simp only [List.length_map] at k37
          refine awp_block ?_
          refine AWP.le (le_pick [0, 0] rfl) ?_
          refine awp_loop_i3 [(0, _), (2, _)] _ (fun (cc : TCur) (l : List TOp) (v : Value) => l.length ≤ 9 ∧ cc.p ≤ c.p + 104 + 20 * l.length ∧ ∀ o ∈ l, o.size ≤ 129) (fun (cc : TCur) (l : List TOp) (v : Value) => [.box b 61 (curC code cc), .arr v 55 4 (l.map TOp.cs)]) (fun (cc : TCur) (l : List TOp) (v : Value) => [(3, AV.is v)]) (fun (cc : TCur) (l : List TOp) (v : Value) => 9 - l.length) (x12.1) (x6.2.1) (x6.2.2) ?_ (le_eq (by rfl) ⟨rfl, rfl, rfl, trivial⟩) ?_
          · exact ⟨by omega, by omega, by rw [hl]; exact hsz6⟩
          intro cc l v hinv
          refine awp_seq ?_
          refine awp_seq ?_
          refine awp_region ?_
          refine sq_plain rfl rfl rfl (w_move rfl (ev_tmp rfl)) ?_
          refine sq_plain rfl rfl rfl (w_alen 1 rfl Tryz.underlying24 (ev_tmp rfl) rfl) ?_
          refine sq_plain rfl rfl rfl (w_move rfl (ev_tmp rfl)) ?_
          refine sq_callG [0] rfl rfl rfl rfl Tryz.call77 rfl (curPick_own _ _ hcode _ _ (by omega) (by omega)) (evl_cons (ev_tmp rfl) (evl_cons ev_ci evl_nil)) rfl ?_
          intro x42 ok42
          refine sq_plain rfl rfl rfl (w_addi rfl ev_ci (ev_tmp rfl) (by first | omega | ((try simp only [List.length_map, List.length_take, List.length_cons, List.length_nil, chunks_len, szR] at *); omega) | (have hc2 := hc; simp only [Bool.and_eq_true, Bool.or_eq_true, Bool.or_eq_false_iff, Bool.and_eq_false_iff, Bool.not_eq_true', Bool.not_eq_false', decide_eq_true_eq, decide_eq_false_iff_not, beq_iff_eq, bne_iff_ne, List.length_map, List.length_take] at hc2; omega))) ?_
          refine sq_plain rfl rfl rfl (w_lss rfl (ev_tmp rfl) (ev_tmp rfl)) ?_
          refine sq_nil ?_
          refine awp_cond (ev_tmp rfl) ?_ ?_
          · intro h44
            have k44 := of_decide_eq_true h44; try simp only [List.length_map] at k44
            refine awp_skip ?_
            refine awp_block ?_
            refine awp_region ?_
            refine sq_plain rfl rfl rfl (w_move rfl (ev_tmp rfl)) ?_
            refine sq_plain rfl rfl rfl (w_move rfl (ev_tmp rfl)) ?_
            refine sq_callG [0] rfl rfl rfl rfl Tryz.call103 rfl (curOp_own _ _ hcode _ (by omega)) (evl_cons (ev_tmp rfl) evl_nil) rfl ?_
            intro x47 ok47
            refine sq_plain rfl rfl rfl (w_bslice rfl Tryz.underlying24 Tryz.sizeOf55 Tryz.zeroValue55 rfl rfl rfl rfl (bp_cons (ev_tmp rfl) (as_agg _) bp_nil) rfl rfl) ?_
            refine sq_append (by' := 48) 1 rfl rfl rfl rfl Tryz.underlying24 Tryz.type55 rfl rfl rfl rfl rfl rfl (ev_tmp rfl) (ev_tmp rfl) rfl (by first | omega | ((try simp only [List.length_map, List.length_take, List.length_cons, List.length_nil, chunks_len, szR] at *); omega) | (have hc2 := hc; simp only [Bool.and_eq_true, Bool.or_eq_true, Bool.or_eq_false_iff, Bool.and_eq_false_iff, Bool.not_eq_true', Bool.not_eq_false', decide_eq_true_eq, decide_eq_false_iff_not, beq_iff_eq, bne_iff_ne, List.length_map, List.length_take] at hc2; omega)) ?_
            intro v49_1
            refine sq_plain rfl rfl rfl (w_assign rfl (ev_tmp rfl)) ?_
            refine sq_nil ?_
            refine blockN ?_
            refine round_end3 cc l v (x47.1) (l ++ [x47.2]) (v49_1) ?_ ?_ (Le.trans (le_pick [0, 0] rfl) (le_eq (by exact congrArg (fun z => [Own.box _ _ _, Own.arr _ 55 4 z]) (by rw [List.map_append]; rfl)) ⟨rfl, rfl, rfl, trivial⟩))
            · exact ⟨by rw [List.length_append, List.length_cons, List.length_nil]; omega, by rw [List.length_append, List.length_cons, List.length_nil]; omega, fun o ho => (List.mem_append.1 ho).elim (hinv.2.2 o) fun e => by rw [List.mem_singleton.1 e]; exact Nat.le_trans ok47.2 (by decide)⟩
            · (rw [List.length_append, List.length_cons, List.length_nil]; omega)
          · intro h44
            have k44 := of_decide_eq_false h44; try simp only [List.length_map] at k44
            refine awp_exit ?_
            refine awp_seq ?_
            refine awp_region ?_
            refine sq_plain rfl rfl rfl (w_move rfl (ev_tmp rfl)) ?_
            refine sq_plain rfl rfl rfl (w_assign rfl (ev_tmp rfl)) ?_
            refine sq_nil ?_
            refine awp_ret ?_
            (refine retG [0, 0] ((x42.1, l, v)) ?_ rfl (by first | rfl | (rw [List.map_append]; rfl)) (resR rfl (rv_tmp' rfl (by rfl))); (dsimp only; first | exact ⟨by omega, by omega, hinv.2.2⟩ | exact ⟨by omega, by omega, by rw [hl]; exact hsz6⟩ | exact ⟨by omega, by simp only [List.length_append, List.length_cons] at hln ⊢; omega, sz_part hsz6 (by unfold TOp.size at hxs ⊢; simp only [List.length_cons, List.length_nil] at *; omega)⟩))
        · intro h37
          have k37 := ne_of_beqf h37; try simp only [List.length_map] at k37
          refine awp_skip ?_
          refine awp_seq ?_
          refine awp_region ?_
          refine sq_plain rfl rfl rfl (w_move rfl (ev_tmp rfl)) ?_
          refine sq_plain rfl rfl rfl (w_assign rfl (ev_tmp rfl)) ?_
          refine sq_nil ?_
          refine awp_ret ?_
          (refine retG [0, 0] ((x12.1, x6.2.1, x6.2.2)) ?_ rfl (by first | rfl | (rw [List.map_append]; rfl)) (resR rfl (rv_tmp' rfl (by rfl))); (dsimp only; first | exact ⟨by omega, by omega, hinv.2.2⟩ | exact ⟨by omega, by omega, by rw [hl]; exact hsz6⟩ | exact ⟨by omega, by simp only [List.length_append, List.length_cons] at hln ⊢; omega, sz_part hsz6 (by unfold TOp.size at hxs ⊢; simp only [List.length_cons, List.length_nil] at *; omega)⟩))
theorem drawGoodOps_own (code : List Int) (hcode : ByteL code) : GSpec Tryz.prog 36 [bytesI code] [] (fun x : List TOp => x.length ≤ 9 ∧ ∀ o ∈ x, o.size ≤ 129) (fun x => []) (fun x => AV.list 4 (x.map TOp.cs)) := by
  refine gspec_of_awp Tryz.func36 rfl Tryz.ntmps36 rfl ?_
  refine awp_seq ?_
  refine awp_region ?_
  refine sq_plain rfl rfl rfl (w_assign rfl ev_cnils) ?_
  refine sq_nil ?_
  refine awp_seq ?_
  refine awp_region ?_
  refine sq_plain rfl rfl rfl (w_move rfl (ev_tmp rfl)) ?_
  refine sq_plain rfl rfl rfl (w_build (places := #[(0, 1), (1, 1), (2, 1)]) rfl Tryz.underlying61 Tryz.zeroValue61 (fun w => by kernel_rfl) rfl (bp_cons (ev_tmp rfl) (as_list _ _) bp_nil) rfl) ?_
  refine sq_box rfl rfl rfl rfl (ev_tmp rfl) ?_
  intro b6
  refine sq_plain rfl rfl rfl (w_assign rfl (ev_tmp rfl)) ?_
  refine sq_nil ?_
  refine awp_seq ?_
  refine awp_region ?_
  refine sq_plain rfl rfl rfl (w_move rfl (ev_tmp rfl)) ?_
  refine sq_callG [0] rfl rfl rfl rfl Tryz.call92 rfl (curAnyOps_own _ _ hcode ⟨0, 0⟩ (by decide)) (evl_cons (ev_tmp rfl) evl_nil) rfl ?_
  intro x8 ok8
  refine sq_le (le_sealD [1] 8 rfl rfl (lt_arr (List.mem_of_getElem? (i := 0) rfl) le_refl_e) gin_nil) ?_
  refine sq_plain rfl rfl rfl (w_assign rfl (ev_tmp rfl)) ?_
  refine sq_nil ?_
  refine awp_ret ?_
  (refine retG [] (x8.2.1) ?_ rfl (by first | (dsimp only; rfl) | rfl) (resR rfl (rv_tmp' rfl (by rfl))); exact ok8.2)
theorem drawOpsText_own (code : List Int) (hcode : ByteL code) : GSpec Tryz.prog 6 [bytesI code] [] (fun x : List TOp => x.length ≤ 9 ∧ ∀ o ∈ x, o.size ≤ 129) (fun x => []) (fun x => AV.list 4 (x.map TOp.cs)) := by
  refine gspec_of_awp Tryz.func6 rfl Tryz.ntmps6 rfl ?_
  refine awp_seq ?_
  refine awp_region ?_
  refine sq_plain rfl rfl rfl (w_assign rfl ev_cnils) ?_
  refine sq_nil ?_
  refine awp_seq ?_
  refine awp_region ?_
  refine sq_plain rfl rfl rfl (w_move rfl (ev_tmp rfl)) ?_
  refine sq_callG [] rfl rfl rfl rfl Tryz.call36 rfl (drawGoodOps_own code hcode) (evl_cons (ev_tmp rfl) evl_nil) rfl ?_
  intro x4 ok4
  refine sq_plain rfl rfl rfl (w_assign rfl (ev_tmp rfl)) ?_
  refine sq_nil ?_
  refine awp_ret ?_
  (refine retG [] (x4) ?_ rfl (by first | (dsimp only; rfl) | rfl) (resR rfl (rv_tmp' rfl (by rfl))); exact ok4)
theorem opsTextR_len (l : List TOp) : (opsTextR l).1.length ≤ 416 := by
  unfold opsTextR
  split
  · rename_i h; exact opsB_len h
  · exact Nat.zero_le _
theorem drawReadOps_own (code : List Int) (hcode : ByteL code) : GSpec Tryz.prog 11 [bytesI code] [] (fun x : Str => x.length ≤ 500) (fun x => []) (fun x => AV.str x) := by
  refine gspec_of_awp Tryz.func11 rfl Tryz.ntmps11 rfl ?_
  refine awp_seq ?_
  refine awp_region ?_
  refine sq_plain rfl rfl rfl (w_assign rfl (ev_cs' (l := []) rfl)) ?_
  refine sq_nil ?_
  refine awp_seq ?_
  refine awp_region ?_
  refine sq_plain rfl rfl rfl (w_move rfl (ev_tmp rfl)) ?_
  refine sq_plain rfl rfl rfl (w_build (places := #[(0, 1), (1, 1), (2, 1)]) rfl Tryz.underlying61 Tryz.zeroValue61 (fun w => by kernel_rfl) rfl (bp_cons (ev_tmp rfl) (as_list _ _) bp_nil) rfl) ?_
  refine sq_box rfl rfl rfl rfl (ev_tmp rfl) ?_
  intro b8
  refine sq_plain rfl rfl rfl (w_assign rfl (ev_tmp rfl)) ?_
  refine sq_nil ?_
  refine awp_seq ?_
  refine awp_region ?_
  refine sq_plain rfl rfl rfl (w_move rfl (ev_tmp rfl)) ?_
  refine sq_callG [0] rfl rfl rfl rfl Tryz.call47 rfl (curOps_own _ _ hcode ⟨0, 0⟩ (by decide)) (evl_cons (ev_tmp rfl) evl_nil) rfl ?_
  intro x11 ok11
  have hp11 : x11.1.p ≤ 100 := ok11.1
  have hsl : sizeL TOp.size x11.2.1 ≤ 1048576 := by (have h9 := sizeL_le ok11.2.2; omega)
  have htl := opsTextR_len x11.2.1
  refine sq_plain rfl rfl rfl (w_callB rfl Tryz.call8 rfl (opsTextS_spec x11.2.1 hsl) (flat_tup (flatl_cons (flat_str _) (flatl_cons (flat_bool _) flatl_nil))) (evlb_cons (evb_arr 1 (ev_tmp rfl) rfl) evlb_nil)) ?_
  refine sq_plain rfl rfl rfl (w_move rfl (ev_tmp rfl)) ?_
  refine sq_plain rfl rfl rfl (w_extract rfl (ev_tmp rfl) rfl) ?_
  refine sq_plain rfl rfl rfl (w_extract rfl (ev_tmp rfl) rfl) ?_
  refine sq_plain rfl rfl rfl (w_assign rfl (ev_tmp rfl)) ?_
  refine sq_plain rfl rfl rfl (w_assign rfl (ev_tmp rfl)) ?_
  refine sq_nil ?_
  refine awp_seq ?_
  refine awp_seq ?_
  refine awp_region ?_
  refine sq_plain rfl rfl rfl (w_move rfl (ev_tmp rfl)) ?_
  refine sq_callG [0] rfl rfl rfl rfl Tryz.call48 rfl (curOne_own _ _ hcode _ _ (by omega) (by omega)) (evl_cons (ev_tmp rfl) (evl_cons ev_ci evl_nil)) rfl ?_
  intro x16 ok16
  refine sq_nil ?_
  refine awp_cond (ev_tmp rfl) ?_ ?_
  · intro h16
    refine awp_region ?_
    refine sq_plain rfl rfl rfl (w_move rfl (ev_tmp rfl)) ?_
    refine sq_plain rfl rfl rfl (w_move rfl (ev_tmp rfl)) ?_
    refine sq_callG [0] rfl rfl rfl rfl Tryz.call49 rfl (curSpoilt_own _ _ hcode _ _ _ (by omega) (by decide) (by omega)) (evl_cons (ev_tmp rfl) (evl_cons (ev_tmp rfl) (evl_cons (ev_cs' (l := [59, 32, 97, 49, 45]) rfl) evl_nil))) rfl ?_
    intro x19 ok19
    refine sq_plain rfl rfl rfl (w_assign rfl (ev_tmp rfl)) ?_
    refine sq_nil ?_
    refine awp_seq ?_
    refine awp_region ?_
    refine sq_plain rfl rfl rfl (w_move rfl (ev_tmp rfl)) ?_
    refine sq_plain rfl rfl rfl (w_assign rfl (ev_tmp rfl)) ?_
    refine sq_nil ?_
    refine awp_ret ?_
    (refine retG [] (x19.2) ?_ rfl (by first | (dsimp only; rfl) | rfl) (resR rfl (rv_tmp' rfl (by rfl))); first | omega | (have h9 := ok19.2; omega))
  · intro h16
    refine awp_skip ?_
    refine awp_seq ?_
    refine awp_region ?_
    refine sq_plain rfl rfl rfl (w_move rfl (ev_tmp rfl)) ?_
    refine sq_plain rfl rfl rfl (w_assign rfl (ev_tmp rfl)) ?_
    refine sq_nil ?_
    refine awp_ret ?_
    (refine retG [] ((opsTextR x11.2.1).1) ?_ rfl (by first | (dsimp only; rfl) | rfl) (resR rfl (rv_tmp' rfl (by rfl))); first | omega | (have h9 := ok19.2; omega))
theorem drawNumberIn_own (code : List Int) (hcode : ByteL code) : GSpec Tryz.prog 13 [bytesI code] [] (fun x : Str => x.length ≤ 64) (fun x => []) (fun x => AV.str x) := by
  refine gspec_of_awp Tryz.func13 rfl Tryz.ntmps13 rfl ?_
  refine awp_seq ?_
  refine awp_region ?_
  refine sq_plain rfl rfl rfl (w_assign rfl (ev_cs' (l := []) rfl)) ?_
  refine sq_nil ?_
  refine awp_seq ?_
  refine awp_region ?_
  refine sq_plain rfl rfl rfl (w_move rfl (ev_tmp rfl)) ?_
  refine sq_plain rfl rfl rfl (w_build (places := #[(0, 1), (1, 1), (2, 1)]) rfl Tryz.underlying61 Tryz.zeroValue61 (fun w => by kernel_rfl) rfl (bp_cons (ev_tmp rfl) (as_list _ _) bp_nil) rfl) ?_
  refine sq_box rfl rfl rfl rfl (ev_tmp rfl) ?_
  intro b6
  refine sq_plain rfl rfl rfl (w_assign rfl (ev_tmp rfl)) ?_
  refine sq_nil ?_
  refine awp_seq ?_
  refine awp_region ?_
  refine sq_plain rfl rfl rfl (w_move rfl (ev_tmp rfl)) ?_
  refine sq_plain rfl rfl rfl (w_bslice rfl Tryz.underlying34 Tryz.sizeOf9 Tryz.zeroValue9 rfl rfl rfl rfl (bp_cons (ev_cs' (l := [48]) rfl) (as_str _) (bp_cons (ev_cs' (l := [45, 48]) rfl) (as_str _) (bp_cons (ev_cs' (l := [55]) rfl) (as_str _) (bp_cons (ev_cs' (l := [45, 55]) rfl) (as_str _) (bp_cons (ev_cs' (l := [48, 48, 55]) rfl) (as_str _) (bp_cons (ev_cs' (l := [57, 57, 57, 57, 57, 57]) rfl) (as_str _) (bp_cons (ev_cs' (l := [49, 48, 48, 48, 48, 48, 48]) rfl) (as_str _) (bp_cons (ev_cs' (l := [45, 57, 57, 57, 57, 57, 57]) rfl) (as_str _) (bp_cons (ev_cs' (l := []) rfl) (as_str _) (bp_cons (ev_cs' (l := [45]) rfl) (as_str _) (bp_cons (ev_cs' (l := [120]) rfl) (as_str _) bp_nil))))))))))) rfl rfl) ?_
  refine sq_callG [0] rfl rfl rfl rfl Tryz.call52 rfl (curOf_own _ _ hcode ⟨0, 0⟩ ([[48], [45, 48], [55], [45, 55], [48, 48, 55], [57, 57, 57, 57, 57, 57], [49, 48, 48, 48, 48, 48, 48], [45, 57, 57, 57, 57, 57, 57], [], [45], [120]] : List Str) (by decide) (by decide)) (evl_cons (ev_tmp rfl) (evl_cons (ev_tmp rfl) evl_nil)) rfl ?_
  intro x9 ok9
  refine sq_plain rfl rfl rfl (w_assign rfl (ev_tmp rfl)) ?_
  refine sq_nil ?_
  refine awp_ret ?_
  (refine retG [] (x9.2) ?_ rfl (by first | (dsimp only; rfl) | rfl) (resR rfl (rv_tmp' rfl (by rfl))); exact ok9.2)
end Go.Proofs.YtmlmmgeadombbaaGreatDoor

set_option linter.unusedVariables false
set_option linter.unusedSimpArgs false
set_option maxRecDepth 100000
namespace Go.Proofs.YtmlmmgeadombbaaGreatDoor
open Go Go.AV Go.M
open Go.ChangeShapes Go.WideShapes Go.ChangeAt Go.RowKit
theorem star : "*" ++ "errors.errorString" = "*errors.errorString" := by decide
theorem errRow (u : TypeId) (h : Tryz.prog.typeName? 3 u = some "*errors.errorString") : u = 181 :=
  typeName_ptr_named (nm := "errors.errorString") (by rw [star]; kernel_rfl) (by kernel_rfl) (by decide) u (by rw [star]; exact h)
theorem readW_of {W : World} (hL : laidMet Tryz.prog Rows.fnOpsTextsRow.laid W) (hsh : W.ShapedOpen Tryz.prog) : readW W := by
  refine ⟨tabW_head (laidMet.tail (laidMet.tail hL)), ?_, ?_, ?_⟩
  · exact cell_of_shapedOpen_int (t := 3) (k := .i64) (zero := #[.int .i64 0]) hsh (of_decide_eq_true (by kernel_rfl)) (by kernel_rfl) rfl (by kernel_rfl) (by kernel_rfl) Tryz.underlying3
  · have h5 := laidMet.tail (laidMet.tail (laidMet.tail (laidMet.tail (laidMet.tail hL))))
    obtain ⟨a, s, h, _⟩ := laid_sentinel (n := "strconv.ErrSyntax") (g := 1) (ti := 98) h5 (by kernel_rfl) (by kernel_rfl) Tryz.underlying98 errRow Tryz.underlying181 Tryz.underlying183 rfl rfl Tryz.underlying9 (by kernel_rfl) (by kernel_rfl)
    exact ⟨_, _, h⟩
  · have h4 := laidMet.tail (laidMet.tail (laidMet.tail (laidMet.tail hL)))
    obtain ⟨a, s, h, _⟩ := laid_sentinel (n := "strconv.ErrRange") (g := 2) (ti := 98) h4 (by kernel_rfl) (by kernel_rfl) Tryz.underlying98 errRow Tryz.underlying181 Tryz.underlying183 rfl rfl Tryz.underlying9 (by kernel_rfl) (by kernel_rfl)
    exact ⟨_, _, h⟩
end Go.Proofs.YtmlmmgeadombbaaGreatDoor

set_option linter.unusedVariables false
set_option linter.unusedSimpArgs false
set_option maxRecDepth 100000
set_option maxHeartbeats 2000000
namespace Go.M
open Go.AV
theorem opsTextR_cases (l : List TOp) : opsTextR l = ([], false) ∨ (opsTextR l = (opsB l, true) ∧ goodOps l = true) := by
  unfold opsTextR
  split
  · rename_i h; exact .inr ⟨rfl, h⟩
  · exact .inl rfl
theorem ops_back {l : List TOp} (h : (opsTextR l).2 = true) (hl : (opsTextR l).1.length ≤ 400) : parseO (opsTextR l).1 = (l, true) := by
  rcases opsTextR_cases l with e | ⟨e, hg⟩
  · rw [e] at h; cases h
  · rw [e] at hl ⊢; exact parseO_back hg hl
theorem ops_again {s : Str} (h : (parseO s).2 = true) : opsTextR (parseO s).1 = (s, true) := by
  rcases parseO_cases s with e | ⟨l, e, hg, hs, _⟩
  · rw [e] at h; cases h
  · rw [e]
    unfold opsTextR
    rw [if_pos hg, hs]
theorem ops_size (s : Str) : sizeL TOp.size (parseO s).1 ≤ 1048576 := by
  rcases parseO_cases s with e | ⟨l, e, hg, _, _⟩
  · rw [e]; simp [sizeL]
  · rw [e]
    have h1 := goodOps_len hg
    have h2 := sizeL_le (f := TOp.size) (c := 36) (l := l) fun o ho => by
      have := isOp_lens (goodOps_is hg o ho)
      unfold TOp.size; omega
    show sizeL TOp.size l ≤ _
    omega
end Go.M
namespace Go.Proofs.YtmlmmgeadombbaaGreatDoor
open Go Go.AV Go.M
open Go.ChangeShapes Go.WideShapes Go.ChangeAt Go.RowKit
section
attribute [local irreducible] OpW OpA OpS AWP FSpec ESpec GSpec OpE RetOk RetOkG RvDen Le Ev GuardIs SrcIs
theorem fnOpsTexts_spec (code : List Int) (hc : ∀ x ∈ code, (Lit.int .u8 x).wf = true) (more : List Int) (hm : ∀ x ∈ more, (Lit.int .u8 x).wf = true) : FSpec Tryz.prog 3 [AV.wt readW (bytesI code), bytesI more] (AV.bool true) := by
  refine spec_of_awp Tryz.func3 rfl Tryz.ntmps3 rfl ?_
  refine AWP.le (le_tab (t := 0) rfl) ?_
  refine awp_seq ?_
  refine awp_region ?_
  refine sq_plain rfl rfl rfl (w_assign rfl ev_cb) ?_
  refine sq_nil ?_
  refine awp_seq ?_
  refine awp_seq ?_
  refine awp_region ?_
  refine sq_plain rfl rfl rfl (w_move rfl (ev_tmp rfl)) ?_
  refine sq_plain rfl rfl rfl (w_move rfl (ev_tmp rfl)) ?_
  refine sq_plain rfl rfl rfl (w_call rfl Tryz.call5 rfl (big_spec _ _) (evl_cons (ev_tmp rfl) (evl_cons (ev_tmp rfl) evl_nil))) ?_
  refine sq_nil ?_
  refine awp_cond (ev_tmp rfl) ?_ ?_
  · intro h26
    refine awp_seq ?_
    refine awp_region ?_
    refine sq_plain rfl rfl rfl (w_assign rfl ev_cb) ?_
    refine sq_nil ?_
    refine awp_ret ?_
    exact retR rfl (rv_tmp' rfl (by first | rfl | exact congrArg AV.bool (by rw [number_eq]; simp)))
  · intro h26
    have hb0 : ByteL code := byteL_of hc
    have hb1 : ByteL more := byteL_of hm
    refine awp_skip ?_
    refine awp_seq ?_
    refine awp_region ?_
    refine sq_plain rfl rfl rfl (w_move rfl (ev_tmp rfl)) ?_
    refine sq_callG [] rfl rfl rfl rfl Tryz.call6 rfl (drawOpsText_own code hb0) (evl_cons (ev_tmp rfl) evl_nil) rfl ?_
    intro x28 ok28
    obtain ⟨l, hx28⟩ : ∃ z, x28 = z := ⟨_, rfl⟩
    subst hx28
    have hsl : sizeL TOp.size x28 ≤ 1048576 := by (have h9 := sizeL_le ok28.2; omega)
    have htl := opsTextR_len x28
    refine sq_plain rfl rfl rfl (w_assign rfl (ev_tmp rfl)) ?_
    refine sq_nil ?_
    refine awp_seq ?_
    refine awp_region ?_
    refine sq_plain rfl rfl rfl (w_move rfl (ev_tmp rfl)) ?_
    refine sq_plain rfl rfl rfl (w_callB rfl Tryz.call7 rfl (opsTextR_spec x28 hsl) (flat_tup (flatl_cons (flat_str _) (flatl_cons (flat_bool _) flatl_nil))) (evlb_cons (evb_wt 0 rfl (by first | exact fun _ h => h | exact fun _ h => h.1) (evb (ev_tmp rfl))) evlb_nil)) ?_
    refine sq_plain rfl rfl rfl (w_move rfl (ev_tmp rfl)) ?_
    refine sq_plain rfl rfl rfl (w_extract rfl (ev_tmp rfl) rfl) ?_
    refine sq_plain rfl rfl rfl (w_extract rfl (ev_tmp rfl) rfl) ?_
    refine sq_plain rfl rfl rfl (w_assign rfl (ev_tmp rfl)) ?_
    refine sq_plain rfl rfl rfl (w_assign rfl (ev_tmp rfl)) ?_
    refine sq_nil ?_
    refine awp_seq ?_
    refine awp_region ?_
    refine sq_plain rfl rfl rfl (w_move rfl (ev_tmp rfl)) ?_
    refine sq_plain rfl rfl rfl (w_call rfl Tryz.call8 rfl (opsTextS_spec x28 hsl) (evl_cons (ev_tmp rfl) evl_nil)) ?_
    refine sq_plain rfl rfl rfl (w_move rfl (ev_tmp rfl)) ?_
    refine sq_plain rfl rfl rfl (w_extract rfl (ev_tmp rfl) rfl) ?_
    refine sq_plain rfl rfl rfl (w_extract rfl (ev_tmp rfl) rfl) ?_
    refine sq_plain rfl rfl rfl (w_assign rfl (ev_tmp rfl)) ?_
    refine sq_plain rfl rfl rfl (w_assign rfl (ev_tmp rfl)) ?_
    refine sq_nil ?_
    refine awp_seq ?_
    refine awp_seq ?_
    refine awp_region ?_
    refine sq_plain rfl rfl rfl (w_move rfl (ev_tmp rfl)) ?_
    refine sq_plain rfl rfl rfl (w_move rfl (ev_tmp rfl)) ?_
    refine sq_plain rfl rfl rfl (w_bneq rfl Tryz.underlying4 (ev_tmp rfl) (ev_tmp rfl)) ?_
    refine sq_plain rfl rfl rfl (w_move rfl (ev_tmp rfl)) ?_
    refine sq_grd rfl rfl (guard_f rfl rfl rfl) (fun hc => w_move rfl (ev_tmp rfl)) ?_
    refine sq_grd rfl rfl (guard_f rfl rfl rfl) (fun hc => w_move rfl (ev_tmp rfl)) ?_
    refine sq_grd rfl rfl (guard_f rfl rfl rfl) (fun hc => w_sneq rfl (ev_whn rfl hc) (ev_whn rfl hc)) ?_
    refine sq_plain rfl rfl rfl (w_or rfl (ev_tmp rfl) (evif_w rfl)) ?_
    refine sq_nil ?_
    refine awp_cond (ev_tmp rfl) ?_ ?_
    · intro h46
      exfalso; simp at h46
    · intro h46
      refine awp_skip ?_
      refine awp_seq ?_
      refine awp_seq ?_
      refine awp_region ?_
      refine sq_plain rfl rfl rfl (w_move rfl (ev_tmp rfl)) ?_
      refine sq_nil ?_
      refine awp_cond (ev_tmp rfl) ?_ ?_
      · intro h47
        refine awp_seq ?_
        refine awp_region ?_
        refine sq_plain rfl rfl rfl (w_move rfl (ev_tmp rfl)) ?_
        refine sq_plain rfl rfl rfl (w_callT 0 rfl rfl Tryz.call9 rfl (readOps_spec (opsTextR x28).1 (by omega)) (evl_cons (ev_tmp rfl) evl_nil) (by first | exact fun _ h => h | exact fun _ h => h.1)) ?_
        refine sq_plain rfl rfl rfl (w_move rfl (ev_tmp rfl)) ?_
        refine sq_plain rfl rfl rfl (w_extract rfl (ev_tmp rfl) rfl) ?_
        refine sq_plain rfl rfl rfl (w_extract rfl (ev_tmp rfl) rfl) ?_
        refine sq_plain rfl rfl rfl (w_assign rfl (ev_tmp rfl)) ?_
        refine sq_plain rfl rfl rfl (w_assign rfl (ev_tmp rfl)) ?_
        refine sq_nil ?_
        refine awp_seq ?_
        refine awp_region ?_
        refine sq_plain rfl rfl rfl (w_move rfl (ev_tmp rfl)) ?_
        refine sq_plain rfl rfl rfl (w_slen rfl Tryz.underlying9 (ev_tmp rfl)) ?_
        refine sq_plain rfl rfl rfl (w_leq rfl (ev_tmp rfl) ev_ci) ?_
        refine sq_plain rfl rfl rfl (w_move rfl (ev_tmp rfl)) ?_
        refine sq_grd rfl rfl (guard_t rfl rfl rfl) (fun hc => w_move rfl (ev_tmp rfl)) ?_
        refine sq_grd rfl rfl (guard_t rfl rfl rfl) (fun hc => w_not rfl (ev_whn rfl hc)) ?_
        refine sq_grd rfl rfl (guard_t rfl rfl rfl) (fun hc => w_move rfl (ev_whn rfl hc)) ?_
        refine sq_grd rfl rfl (guard_wf rfl rfl rfl) (fun hc => w_move rfl (ev_tmp rfl)) ?_
        refine sq_grd rfl rfl (guard_wf rfl rfl rfl) (fun hc => w_move rfl (ev_tmp rfl)) ?_
        refine sq_grd rfl rfl (guard_wf rfl rfl rfl) (fun hc => w_call rfl Tryz.call10 rfl (pSameOps_spec _ _) (evl_cons (ev_whn rfl hc) (evl_cons (ev_whn rfl hc) evl_nil))) ?_
        refine sq_grd rfl rfl (guard_wf rfl rfl rfl) (fun hc => w_not rfl (ev_whn rfl hc)) ?_
        refine sq_grd rfl rfl (guard_t rfl rfl rfl) (fun hc => w_or rfl (ev_whn rfl hc) (evif_w2 rfl hc)) ?_
        refine sq_plain rfl rfl rfl (w_and rfl (ev_tmp rfl) (evif_w rfl)) ?_
        refine sq_nil ?_
        refine awp_cond (ev_tmp rfl) ?_ ?_
        · intro h65
          exfalso; simp only [Bool.and_eq_true, decide_eq_true_eq] at h65; rw [ops_back h47 (by omega)] at h65; simp at h65
        · intro h65
          refine awp_skip ?_
          refine awp_seq ?_
          refine awp_region ?_
          refine sq_plain rfl rfl rfl (w_move rfl (ev_tmp rfl)) ?_
          refine sq_callG [] rfl rfl rfl rfl Tryz.call11 rfl (drawReadOps_own more hb1) (evl_cons (ev_tmp rfl) evl_nil) rfl ?_
          intro x67 ok67
          have hx67 : x67.length ≤ 500 := ok67
          have hsp := ops_size x67
          refine sq_plain rfl rfl rfl (w_assign rfl (ev_tmp rfl)) ?_
          refine sq_nil ?_
          refine awp_seq ?_
          refine awp_region ?_
          refine sq_plain rfl rfl rfl (w_move rfl (ev_tmp rfl)) ?_
          refine sq_plain rfl rfl rfl (w_callT 0 rfl rfl Tryz.call9 rfl (readOps_spec x67 (by omega)) (evl_cons (ev_tmp rfl) evl_nil) (by first | exact fun _ h => h | exact fun _ h => h.1)) ?_
          refine sq_plain rfl rfl rfl (w_move rfl (ev_tmp rfl)) ?_
          refine sq_plain rfl rfl rfl (w_extract rfl (ev_tmp rfl) rfl) ?_
          refine sq_plain rfl rfl rfl (w_extract rfl (ev_tmp rfl) rfl) ?_
          refine sq_plain rfl rfl rfl (w_assign rfl (ev_tmp rfl)) ?_
          refine sq_plain rfl rfl rfl (w_assign rfl (ev_tmp rfl)) ?_
          refine sq_nil ?_
          refine awp_seq ?_
          refine awp_region ?_
          refine sq_plain rfl rfl rfl (w_move rfl (ev_tmp rfl)) ?_
          refine sq_plain rfl rfl rfl (w_call rfl Tryz.call12 rfl (readOpsS_spec x67 (by omega)) (evl_cons (ev_tmp rfl) evl_nil)) ?_
          refine sq_plain rfl rfl rfl (w_move rfl (ev_tmp rfl)) ?_
          refine sq_plain rfl rfl rfl (w_extract rfl (ev_tmp rfl) rfl) ?_
          refine sq_plain rfl rfl rfl (w_extract rfl (ev_tmp rfl) rfl) ?_
          refine sq_plain rfl rfl rfl (w_assign rfl (ev_tmp rfl)) ?_
          refine sq_plain rfl rfl rfl (w_assign rfl (ev_tmp rfl)) ?_
          refine sq_nil ?_
          refine awp_seq ?_
          refine awp_seq ?_
          refine awp_region ?_
          refine sq_plain rfl rfl rfl (w_move rfl (ev_tmp rfl)) ?_
          refine sq_plain rfl rfl rfl (w_move rfl (ev_tmp rfl)) ?_
          refine sq_plain rfl rfl rfl (w_bneq rfl Tryz.underlying4 (ev_tmp rfl) (ev_tmp rfl)) ?_
          refine sq_plain rfl rfl rfl (w_move rfl (ev_tmp rfl)) ?_
          refine sq_grd rfl rfl (guard_f rfl rfl rfl) (fun hc => w_move rfl (ev_tmp rfl)) ?_
          refine sq_grd rfl rfl (guard_f rfl rfl rfl) (fun hc => w_move rfl (ev_tmp rfl)) ?_
          refine sq_grd rfl rfl (guard_f rfl rfl rfl) (fun hc => w_call rfl Tryz.call10 rfl (pSameOps_spec _ _) (evl_cons (ev_whn rfl hc) (evl_cons (ev_whn rfl hc) evl_nil))) ?_
          refine sq_grd rfl rfl (guard_f rfl rfl rfl) (fun hc => w_not rfl (ev_whn rfl hc)) ?_
          refine sq_plain rfl rfl rfl (w_or rfl (ev_tmp rfl) (evif_w rfl)) ?_
          refine sq_nil ?_
          refine awp_cond (ev_tmp rfl) ?_ ?_
          · intro h86
            exfalso; rw [parseO_eq] at h86; simp at h86
          · intro h86
            refine awp_skip ?_
            refine awp_seq ?_
            refine awp_seq ?_
            refine awp_region ?_
            refine sq_plain rfl rfl rfl (w_move rfl (ev_tmp rfl)) ?_
            refine sq_nil ?_
            refine awp_cond (ev_tmp rfl) ?_ ?_
            · intro h87
              refine awp_seq ?_
              refine awp_region ?_
              refine sq_plain rfl rfl rfl (w_move rfl (ev_tmp rfl)) ?_
              refine sq_plain rfl rfl rfl (w_callB rfl Tryz.call7 rfl (opsTextR_spec (parseO x67).1 hsp) (flat_tup (flatl_cons (flat_str _) (flatl_cons (flat_bool _) flatl_nil))) (evlb_cons (evb_wt 0 rfl (by first | exact fun _ h => h | exact fun _ h => h.1) (evb (ev_tmp rfl))) evlb_nil)) ?_
              refine sq_plain rfl rfl rfl (w_move rfl (ev_tmp rfl)) ?_
              refine sq_plain rfl rfl rfl (w_extract rfl (ev_tmp rfl) rfl) ?_
              refine sq_plain rfl rfl rfl (w_extract rfl (ev_tmp rfl) rfl) ?_
              refine sq_plain rfl rfl rfl (w_assign rfl (ev_tmp rfl)) ?_
              refine sq_plain rfl rfl rfl (w_assign rfl (ev_tmp rfl)) ?_
              refine sq_nil ?_
              refine awp_seq ?_
              refine awp_region ?_
              refine sq_plain rfl rfl rfl (w_move rfl (ev_tmp rfl)) ?_
              refine sq_plain rfl rfl rfl (w_not rfl (ev_tmp rfl)) ?_
              refine sq_plain rfl rfl rfl (w_move rfl (ev_tmp rfl)) ?_
              refine sq_grd rfl rfl (guard_f rfl rfl rfl) (fun hc => w_move rfl (ev_tmp rfl)) ?_
              refine sq_grd rfl rfl (guard_f rfl rfl rfl) (fun hc => w_move rfl (ev_tmp rfl)) ?_
              refine sq_grd rfl rfl (guard_f rfl rfl rfl) (fun hc => w_sneq rfl (ev_whn rfl hc) (ev_whn rfl hc)) ?_
              refine sq_plain rfl rfl rfl (w_or rfl (ev_tmp rfl) (evif_w rfl)) ?_
              refine sq_nil ?_
              refine awp_cond (ev_tmp rfl) ?_ ?_
              · intro h99
                exfalso; rw [ops_again h87] at h99; simp at h99
              · intro h99
                refine awp_skip ?_
                refine awp_seq ?_
                refine awp_region ?_
                refine sq_plain rfl rfl rfl (w_move rfl (ev_tmp rfl)) ?_
                refine sq_callG [] rfl rfl rfl rfl Tryz.call13 rfl (drawNumberIn_own more hb1) (evl_cons (ev_tmp rfl) evl_nil) rfl ?_
                intro x101 ok101
                have hx101 : x101.length ≤ 64 := ok101
                refine sq_plain rfl rfl rfl (w_assign rfl (ev_tmp rfl)) ?_
                refine sq_nil ?_
                refine awp_seq ?_
                refine awp_region ?_
                refine sq_plain rfl rfl rfl (w_move rfl (ev_tmp rfl)) ?_
                refine sq_plain rfl rfl rfl (w_callT 0 rfl rfl Tryz.call14 rfl (numberIn_spec x101 (by omega)) (evl_cons (ev_tmp rfl) evl_nil) (by first | exact fun _ h => h | exact fun _ h => h.1)) ?_
                refine sq_plain rfl rfl rfl (w_move rfl (ev_tmp rfl)) ?_
                refine sq_plain rfl rfl rfl (w_extract rfl (ev_tmp rfl) rfl) ?_
                refine sq_plain rfl rfl rfl (w_extract rfl (ev_tmp rfl) rfl) ?_
                refine sq_plain rfl rfl rfl (w_assign rfl (ev_tmp rfl)) ?_
                refine sq_plain rfl rfl rfl (w_assign rfl (ev_tmp rfl)) ?_
                refine sq_nil ?_
                refine awp_seq ?_
                refine awp_region ?_
                refine sq_plain rfl rfl rfl (w_move rfl (ev_tmp rfl)) ?_
                refine sq_plain rfl rfl rfl (w_call rfl Tryz.call15 rfl (numberInS_spec x101 (by omega)) (evl_cons (ev_tmp rfl) evl_nil)) ?_
                refine sq_plain rfl rfl rfl (w_move rfl (ev_tmp rfl)) ?_
                refine sq_plain rfl rfl rfl (w_extract rfl (ev_tmp rfl) rfl) ?_
                refine sq_plain rfl rfl rfl (w_extract rfl (ev_tmp rfl) rfl) ?_
                refine sq_plain rfl rfl rfl (w_assign rfl (ev_tmp rfl)) ?_
                refine sq_plain rfl rfl rfl (w_assign rfl (ev_tmp rfl)) ?_
                refine sq_nil ?_
                refine awp_seq ?_
                refine awp_region ?_
                refine sq_plain rfl rfl rfl (w_move rfl (ev_tmp rfl)) ?_
                refine sq_plain rfl rfl rfl (w_move rfl (ev_tmp rfl)) ?_
                refine sq_plain rfl rfl rfl (w_beql rfl Tryz.underlying4 (ev_tmp rfl) (ev_tmp rfl)) ?_
                refine sq_plain rfl rfl rfl (w_move rfl (ev_tmp rfl)) ?_
                refine sq_grd rfl rfl (guard_t rfl rfl rfl) (fun hc => w_move rfl (ev_tmp rfl)) ?_
                refine sq_grd rfl rfl (guard_t rfl rfl rfl) (fun hc => w_move rfl (ev_tmp rfl)) ?_
                refine sq_grd rfl rfl (guard_t rfl rfl rfl) (fun hc => w_eql rfl (ev_whn rfl hc) (ev_whn rfl hc)) ?_
                refine sq_plain rfl rfl rfl (w_and rfl (ev_tmp rfl) (evif_w rfl)) ?_
                refine sq_plain rfl rfl rfl (w_assign rfl (ev_tmp rfl)) ?_
                refine sq_nil ?_
                refine awp_ret ?_
                exact retR rfl (rv_tmp' rfl (by first | rfl | exact congrArg AV.bool (by rw [number_eq]; simp)))
            · intro h87
              refine awp_skip ?_
              refine awp_seq ?_
              refine awp_region ?_
              refine sq_plain rfl rfl rfl (w_move rfl (ev_tmp rfl)) ?_
              refine sq_callG [] rfl rfl rfl rfl Tryz.call13 rfl (drawNumberIn_own more hb1) (evl_cons (ev_tmp rfl) evl_nil) rfl ?_
              intro x101 ok101
              have hx101 : x101.length ≤ 64 := ok101
              refine sq_plain rfl rfl rfl (w_assign rfl (ev_tmp rfl)) ?_
              refine sq_nil ?_
              refine awp_seq ?_
              refine awp_region ?_
              refine sq_plain rfl rfl rfl (w_move rfl (ev_tmp rfl)) ?_
              refine sq_plain rfl rfl rfl (w_callT 0 rfl rfl Tryz.call14 rfl (numberIn_spec x101 (by omega)) (evl_cons (ev_tmp rfl) evl_nil) (by first | exact fun _ h => h | exact fun _ h => h.1)) ?_
              refine sq_plain rfl rfl rfl (w_move rfl (ev_tmp rfl)) ?_
              refine sq_plain rfl rfl rfl (w_extract rfl (ev_tmp rfl) rfl) ?_
              refine sq_plain rfl rfl rfl (w_extract rfl (ev_tmp rfl) rfl) ?_
              refine sq_plain rfl rfl rfl (w_assign rfl (ev_tmp rfl)) ?_
              refine sq_plain rfl rfl rfl (w_assign rfl (ev_tmp rfl)) ?_
              refine sq_nil ?_
              refine awp_seq ?_
              refine awp_region ?_
              refine sq_plain rfl rfl rfl (w_move rfl (ev_tmp rfl)) ?_
              refine sq_plain rfl rfl rfl (w_call rfl Tryz.call15 rfl (numberInS_spec x101 (by omega)) (evl_cons (ev_tmp rfl) evl_nil)) ?_
              refine sq_plain rfl rfl rfl (w_move rfl (ev_tmp rfl)) ?_
              refine sq_plain rfl rfl rfl (w_extract rfl (ev_tmp rfl) rfl) ?_
              refine sq_plain rfl rfl rfl (w_extract rfl (ev_tmp rfl) rfl) ?_
              refine sq_plain rfl rfl rfl (w_assign rfl (ev_tmp rfl)) ?_
              refine sq_plain rfl rfl rfl (w_assign rfl (ev_tmp rfl)) ?_
              refine sq_nil ?_
              refine awp_seq ?_
              refine awp_region ?_
              refine sq_plain rfl rfl rfl (w_move rfl (ev_tmp rfl)) ?_
              refine sq_plain rfl rfl rfl (w_move rfl (ev_tmp rfl)) ?_
              refine sq_plain rfl rfl rfl (w_beql rfl Tryz.underlying4 (ev_tmp rfl) (ev_tmp rfl)) ?_
              refine sq_plain rfl rfl rfl (w_move rfl (ev_tmp rfl)) ?_
              refine sq_grd rfl rfl (guard_t rfl rfl rfl) (fun hc => w_move rfl (ev_tmp rfl)) ?_
              refine sq_grd rfl rfl (guard_t rfl rfl rfl) (fun hc => w_move rfl (ev_tmp rfl)) ?_
              refine sq_grd rfl rfl (guard_t rfl rfl rfl) (fun hc => w_eql rfl (ev_whn rfl hc) (ev_whn rfl hc)) ?_
              refine sq_plain rfl rfl rfl (w_and rfl (ev_tmp rfl) (evif_w rfl)) ?_
              refine sq_plain rfl rfl rfl (w_assign rfl (ev_tmp rfl)) ?_
              refine sq_nil ?_
              refine awp_ret ?_
              exact retR rfl (rv_tmp' rfl (by first | rfl | exact congrArg AV.bool (by rw [number_eq]; simp)))
      · intro h47
        refine awp_skip ?_
        refine awp_seq ?_
        refine awp_region ?_
        refine sq_plain rfl rfl rfl (w_move rfl (ev_tmp rfl)) ?_
        refine sq_callG [] rfl rfl rfl rfl Tryz.call11 rfl (drawReadOps_own more hb1) (evl_cons (ev_tmp rfl) evl_nil) rfl ?_
        intro x67 ok67
        have hx67 : x67.length ≤ 500 := ok67
        have hsp := ops_size x67
        refine sq_plain rfl rfl rfl (w_assign rfl (ev_tmp rfl)) ?_
        refine sq_nil ?_
        refine awp_seq ?_
        refine awp_region ?_
        refine sq_plain rfl rfl rfl (w_move rfl (ev_tmp rfl)) ?_
        refine sq_plain rfl rfl rfl (w_callT 0 rfl rfl Tryz.call9 rfl (readOps_spec x67 (by omega)) (evl_cons (ev_tmp rfl) evl_nil) (by first | exact fun _ h => h | exact fun _ h => h.1)) ?_
        refine sq_plain rfl rfl rfl (w_move rfl (ev_tmp rfl)) ?_
        refine sq_plain rfl rfl rfl (w_extract rfl (ev_tmp rfl) rfl) ?_
        refine sq_plain rfl rfl rfl (w_extract rfl (ev_tmp rfl) rfl) ?_
        refine sq_plain rfl rfl rfl (w_assign rfl (ev_tmp rfl)) ?_
        refine sq_plain rfl rfl rfl (w_assign rfl (ev_tmp rfl)) ?_
        refine sq_nil ?_
        refine awp_seq ?_
        refine awp_region ?_
        refine sq_plain rfl rfl rfl (w_move rfl (ev_tmp rfl)) ?_
        refine sq_plain rfl rfl rfl (w_call rfl Tryz.call12 rfl (readOpsS_spec x67 (by omega)) (evl_cons (ev_tmp rfl) evl_nil)) ?_
        refine sq_plain rfl rfl rfl (w_move rfl (ev_tmp rfl)) ?_
        refine sq_plain rfl rfl rfl (w_extract rfl (ev_tmp rfl) rfl) ?_
        refine sq_plain rfl rfl rfl (w_extract rfl (ev_tmp rfl) rfl) ?_
        refine sq_plain rfl rfl rfl (w_assign rfl (ev_tmp rfl)) ?_
        refine sq_plain rfl rfl rfl (w_assign rfl (ev_tmp rfl)) ?_
        refine sq_nil ?_
        refine awp_seq ?_
        refine awp_seq ?_
        refine awp_region ?_
        refine sq_plain rfl rfl rfl (w_move rfl (ev_tmp rfl)) ?_
        refine sq_plain rfl rfl rfl (w_move rfl (ev_tmp rfl)) ?_
        refine sq_plain rfl rfl rfl (w_bneq rfl Tryz.underlying4 (ev_tmp rfl) (ev_tmp rfl)) ?_
        refine sq_plain rfl rfl rfl (w_move rfl (ev_tmp rfl)) ?_
        refine sq_grd rfl rfl (guard_f rfl rfl rfl) (fun hc => w_move rfl (ev_tmp rfl)) ?_
        refine sq_grd rfl rfl (guard_f rfl rfl rfl) (fun hc => w_move rfl (ev_tmp rfl)) ?_
        refine sq_grd rfl rfl (guard_f rfl rfl rfl) (fun hc => w_call rfl Tryz.call10 rfl (pSameOps_spec _ _) (evl_cons (ev_whn rfl hc) (evl_cons (ev_whn rfl hc) evl_nil))) ?_
        refine sq_grd rfl rfl (guard_f rfl rfl rfl) (fun hc => w_not rfl (ev_whn rfl hc)) ?_
        refine sq_plain rfl rfl rfl (w_or rfl (ev_tmp rfl) (evif_w rfl)) ?_
        refine sq_nil ?_
        refine awp_cond (ev_tmp rfl) ?_ ?_
        · intro h86
          exfalso; rw [parseO_eq] at h86; simp at h86
        · intro h86
          refine awp_skip ?_
          refine awp_seq ?_
          refine awp_seq ?_
          refine awp_region ?_
          refine sq_plain rfl rfl rfl (w_move rfl (ev_tmp rfl)) ?_
          refine sq_nil ?_
          refine awp_cond (ev_tmp rfl) ?_ ?_
          · intro h87
            refine awp_seq ?_
            refine awp_region ?_
            refine sq_plain rfl rfl rfl (w_move rfl (ev_tmp rfl)) ?_
            refine sq_plain rfl rfl rfl (w_callB rfl Tryz.call7 rfl (opsTextR_spec (parseO x67).1 hsp) (flat_tup (flatl_cons (flat_str _) (flatl_cons (flat_bool _) flatl_nil))) (evlb_cons (evb_wt 0 rfl (by first | exact fun _ h => h | exact fun _ h => h.1) (evb (ev_tmp rfl))) evlb_nil)) ?_
            refine sq_plain rfl rfl rfl (w_move rfl (ev_tmp rfl)) ?_
            refine sq_plain rfl rfl rfl (w_extract rfl (ev_tmp rfl) rfl) ?_
            refine sq_plain rfl rfl rfl (w_extract rfl (ev_tmp rfl) rfl) ?_
            refine sq_plain rfl rfl rfl (w_assign rfl (ev_tmp rfl)) ?_
            refine sq_plain rfl rfl rfl (w_assign rfl (ev_tmp rfl)) ?_
            refine sq_nil ?_
            refine awp_seq ?_
            refine awp_region ?_
            refine sq_plain rfl rfl rfl (w_move rfl (ev_tmp rfl)) ?_
            refine sq_plain rfl rfl rfl (w_not rfl (ev_tmp rfl)) ?_
            refine sq_plain rfl rfl rfl (w_move rfl (ev_tmp rfl)) ?_
            refine sq_grd rfl rfl (guard_f rfl rfl rfl) (fun hc => w_move rfl (ev_tmp rfl)) ?_
            refine sq_grd rfl rfl (guard_f rfl rfl rfl) (fun hc => w_move rfl (ev_tmp rfl)) ?_
            refine sq_grd rfl rfl (guard_f rfl rfl rfl) (fun hc => w_sneq rfl (ev_whn rfl hc) (ev_whn rfl hc)) ?_
            refine sq_plain rfl rfl rfl (w_or rfl (ev_tmp rfl) (evif_w rfl)) ?_
            refine sq_nil ?_
            refine awp_cond (ev_tmp rfl) ?_ ?_
            · intro h99
              exfalso; rw [ops_again h87] at h99; simp at h99
            · intro h99
              refine awp_skip ?_
              refine awp_seq ?_
              refine awp_region ?_
              refine sq_plain rfl rfl rfl (w_move rfl (ev_tmp rfl)) ?_
              refine sq_callG [] rfl rfl rfl rfl Tryz.call13 rfl (drawNumberIn_own more hb1) (evl_cons (ev_tmp rfl) evl_nil) rfl ?_
              intro x101 ok101
              have hx101 : x101.length ≤ 64 := ok101
              refine sq_plain rfl rfl rfl (w_assign rfl (ev_tmp rfl)) ?_
              refine sq_nil ?_
              refine awp_seq ?_
              refine awp_region ?_
              refine sq_plain rfl rfl rfl (w_move rfl (ev_tmp rfl)) ?_
              refine sq_plain rfl rfl rfl (w_callT 0 rfl rfl Tryz.call14 rfl (numberIn_spec x101 (by omega)) (evl_cons (ev_tmp rfl) evl_nil) (by first | exact fun _ h => h | exact fun _ h => h.1)) ?_
              refine sq_plain rfl rfl rfl (w_move rfl (ev_tmp rfl)) ?_
              refine sq_plain rfl rfl rfl (w_extract rfl (ev_tmp rfl) rfl) ?_
              refine sq_plain rfl rfl rfl (w_extract rfl (ev_tmp rfl) rfl) ?_
              refine sq_plain rfl rfl rfl (w_assign rfl (ev_tmp rfl)) ?_
              refine sq_plain rfl rfl rfl (w_assign rfl (ev_tmp rfl)) ?_
              refine sq_nil ?_
              refine awp_seq ?_
              refine awp_region ?_
              refine sq_plain rfl rfl rfl (w_move rfl (ev_tmp rfl)) ?_
              refine sq_plain rfl rfl rfl (w_call rfl Tryz.call15 rfl (numberInS_spec x101 (by omega)) (evl_cons (ev_tmp rfl) evl_nil)) ?_
              refine sq_plain rfl rfl rfl (w_move rfl (ev_tmp rfl)) ?_
              refine sq_plain rfl rfl rfl (w_extract rfl (ev_tmp rfl) rfl) ?_
              refine sq_plain rfl rfl rfl (w_extract rfl (ev_tmp rfl) rfl) ?_
              refine sq_plain rfl rfl rfl (w_assign rfl (ev_tmp rfl)) ?_
              refine sq_plain rfl rfl rfl (w_assign rfl (ev_tmp rfl)) ?_
              refine sq_nil ?_
              refine awp_seq ?_
              refine awp_region ?_
              refine sq_plain rfl rfl rfl (w_move rfl (ev_tmp rfl)) ?_
              refine sq_plain rfl rfl rfl (w_move rfl (ev_tmp rfl)) ?_
              refine sq_plain rfl rfl rfl (w_beql rfl Tryz.underlying4 (ev_tmp rfl) (ev_tmp rfl)) ?_
              refine sq_plain rfl rfl rfl (w_move rfl (ev_tmp rfl)) ?_
              refine sq_grd rfl rfl (guard_t rfl rfl rfl) (fun hc => w_move rfl (ev_tmp rfl)) ?_
              refine sq_grd rfl rfl (guard_t rfl rfl rfl) (fun hc => w_move rfl (ev_tmp rfl)) ?_
              refine sq_grd rfl rfl (guard_t rfl rfl rfl) (fun hc => w_eql rfl (ev_whn rfl hc) (ev_whn rfl hc)) ?_
              refine sq_plain rfl rfl rfl (w_and rfl (ev_tmp rfl) (evif_w rfl)) ?_
              refine sq_plain rfl rfl rfl (w_assign rfl (ev_tmp rfl)) ?_
              refine sq_nil ?_
              refine awp_ret ?_
              exact retR rfl (rv_tmp' rfl (by first | rfl | exact congrArg AV.bool (by rw [number_eq]; simp)))
          · intro h87
            refine awp_skip ?_
            refine awp_seq ?_
            refine awp_region ?_
            refine sq_plain rfl rfl rfl (w_move rfl (ev_tmp rfl)) ?_
            refine sq_callG [] rfl rfl rfl rfl Tryz.call13 rfl (drawNumberIn_own more hb1) (evl_cons (ev_tmp rfl) evl_nil) rfl ?_
            intro x101 ok101
            have hx101 : x101.length ≤ 64 := ok101
            refine sq_plain rfl rfl rfl (w_assign rfl (ev_tmp rfl)) ?_
            refine sq_nil ?_
            refine awp_seq ?_
            refine awp_region ?_
            refine sq_plain rfl rfl rfl (w_move rfl (ev_tmp rfl)) ?_
            refine sq_plain rfl rfl rfl (w_callT 0 rfl rfl Tryz.call14 rfl (numberIn_spec x101 (by omega)) (evl_cons (ev_tmp rfl) evl_nil) (by first | exact fun _ h => h | exact fun _ h => h.1)) ?_
            refine sq_plain rfl rfl rfl (w_move rfl (ev_tmp rfl)) ?_
            refine sq_plain rfl rfl rfl (w_extract rfl (ev_tmp rfl) rfl) ?_
            refine sq_plain rfl rfl rfl (w_extract rfl (ev_tmp rfl) rfl) ?_
            refine sq_plain rfl rfl rfl (w_assign rfl (ev_tmp rfl)) ?_
            refine sq_plain rfl rfl rfl (w_assign rfl (ev_tmp rfl)) ?_
            refine sq_nil ?_
            refine awp_seq ?_
            refine awp_region ?_
            refine sq_plain rfl rfl rfl (w_move rfl (ev_tmp rfl)) ?_
            refine sq_plain rfl rfl rfl (w_call rfl Tryz.call15 rfl (numberInS_spec x101 (by omega)) (evl_cons (ev_tmp rfl) evl_nil)) ?_
            refine sq_plain rfl rfl rfl (w_move rfl (ev_tmp rfl)) ?_
            refine sq_plain rfl rfl rfl (w_extract rfl (ev_tmp rfl) rfl) ?_
            refine sq_plain rfl rfl rfl (w_extract rfl (ev_tmp rfl) rfl) ?_
            refine sq_plain rfl rfl rfl (w_assign rfl (ev_tmp rfl)) ?_
            refine sq_plain rfl rfl rfl (w_assign rfl (ev_tmp rfl)) ?_
            refine sq_nil ?_
            refine awp_seq ?_
            refine awp_region ?_
            refine sq_plain rfl rfl rfl (w_move rfl (ev_tmp rfl)) ?_
            refine sq_plain rfl rfl rfl (w_move rfl (ev_tmp rfl)) ?_
            refine sq_plain rfl rfl rfl (w_beql rfl Tryz.underlying4 (ev_tmp rfl) (ev_tmp rfl)) ?_
            refine sq_plain rfl rfl rfl (w_move rfl (ev_tmp rfl)) ?_
            refine sq_grd rfl rfl (guard_t rfl rfl rfl) (fun hc => w_move rfl (ev_tmp rfl)) ?_
            refine sq_grd rfl rfl (guard_t rfl rfl rfl) (fun hc => w_move rfl (ev_tmp rfl)) ?_
            refine sq_grd rfl rfl (guard_t rfl rfl rfl) (fun hc => w_eql rfl (ev_whn rfl hc) (ev_whn rfl hc)) ?_
            refine sq_plain rfl rfl rfl (w_and rfl (ev_tmp rfl) (evif_w rfl)) ?_
            refine sq_plain rfl rfl rfl (w_assign rfl (ev_tmp rfl)) ?_
            refine sq_nil ?_
            refine awp_ret ?_
            exact retR rfl (rv_tmp' rfl (by first | rfl | exact congrArg AV.bool (by rw [number_eq]; simp)))
end
theorem opens_bytes : Opens Tryz.prog 22 (List Int) (fun l => [bytesI l]) (fun l => ∀ x ∈ l, (Lit.int .u8 x).wf = true) := opens_slice (sz := 1) Tryz.underlying22 (by kernel_rfl) (opens_int Tryz.underlying5) (fun _ => rfl)
set_option maxRecDepth 100000 in
theorem fnOpsTexts_lifted (os : Os) (started : os.Started) (H : Type) (enc : TypeId × Value → H) :
    ReturnsInHanded {} Tryz.checked os 3 .any (fun w args => (Rows.fnOpsTextsSpec.pre enc Tryz.prog Tryz.f3 [] false w args ∧ laidMetH Tryz.prog Rows.fnOpsTextsRow.laid w) ∧ sizedMet enc Tryz.prog Tryz.f3 (OpenSpec.ofChange Rows.fnOpsTextsSpec) false w args) (Rows.fnOpsTextsSpec.post enc Tryz.prog Tryz.f3 false true false false) := by
  refine Go.AV.handed_shaped (C := Tryz.checked) (X := fun w _ => laidMetH Tryz.prog Rows.fnOpsTextsRow.laid w) (fun _ _ _ hh h => h.of_heap hh) (by kernel_rfl) started (by kernel_rfl) Tryz.func3
    (ChangeSpec.witness_shaped (enc := enc) (C := Tryz.checked) (os := os) (X := fun w _ => laidMetH Tryz.prog Rows.fnOpsTextsRow.laid w) false (World.laidAll Tryz.prog os Rows.fnOpsTextsRow.laid) #[.slice none 0 0, .slice none 0 0] 8 (World.laidAll_os _ _ _)
      (World.shaped_of_ZipB (by kernel_rfl) (by kernel_rfl)) (by kernel_rfl) (by kernel_rfl) (by kernel_rfl)
      (by rw [MakeChecks.laidMetH_plain _ _ _ (by kernel_rfl)]; exact laidMet_laidAll _ (by kernel_rfl) (by kernel_rfl))) ?_
  intro W base args ds gs before hval0 hW hsh _ hL _
  rw [MakeChecks.laidMetH_plain _ _ _ (by kernel_rfl)] at hL
  have hT : readW W := readW_of hL hsh
  have hval : ∀ (j : Nat) t v, Tryz.f3.params[j]? = some t → args[j]? = some v → Value.okWide Tryz.prog W .any base t v := hval0
  have hW2 := hW
  obtain ⟨p, q, hA0, hV, rfl, hfz, hnd⟩ := hW
  have hA : DataW.TrodAll enc Tryz.prog W 0 (fun _ => true) true Tryz.f3.params.toList args.toList ds p := hA0
  rw [Tryz.params3] at hA hval
  obtain ⟨v0, vs0, d0, ds0, p0, q0, hargs, rfl, rfl, h0, r0⟩ := trodAll_cons hA
  obtain ⟨v1, vs1, d1, ds1, p1, q1, rfl, rfl, rfl, h1, r1⟩ := trodAll_cons r0
  obtain ⟨rfl, rfl, rfl⟩ := trodAll_nil r1
  obtain rfl : args = #[v0, v1] := by cases args; simp_all
  obtain ⟨rfl, rfl⟩ := trodVars_none hV
  have lt0 : ∀ x ∈ p0, x.block < W.heap.size := by obtain ⟨m, hm⟩ := h0; exact DataW.trod_lt m _ _ _ hm
  obtain ⟨a0, w0, g0⟩ := arg_one (opens_bytes) (by obtain ⟨y1, y2, y3, rfl⟩ := okWide_slice Tryz.underlying22 (hval 0 22 v0 rfl rfl); rfl) h0
  have lt1 : ∀ x ∈ p1, x.block < W.heap.size := by obtain ⟨m, hm⟩ := h1; exact DataW.trod_lt m _ _ _ hm
  obtain ⟨a1, w1, g1⟩ := arg_one (opens_bytes) (by obtain ⟨y1, y2, y3, rfl⟩ := okWide_slice Tryz.underlying22 (hval 1 22 v1 rfl rfl); rfl) h1
  have hcall := law_calls (fnOpsTexts_spec a0 w0 a1 w1) (DenV.cons ⟨g0, fun w2 hw2 => readW_heap hT hw2⟩ (DenV.cons g1 (DenV.nil _)))
  clear hA0 hval0
  refine Calls.mono hcall fun e W2 ⟨he, bel⟩ => ?_
  subst he
  exact ⟨_, rfl, _, _, _, [], _, [], hW2, trodAll_mk1 (shut_bool Tryz.underlying4 _), (trodAll_cons_mk (Below.trod (by kernel_rfl : laidOutB Tryz.prog = true) (by kernel_rfl) (of_decide_eq_true (by kernel_rfl)) h0 bel lt0) (trodAll_cons_mk (Below.trod (by kernel_rfl : laidOutB Tryz.prog = true) (by kernel_rfl) (of_decide_eq_true (by kernel_rfl)) h1 bel lt1) trodAll_mk0)), rfl, bel.frame _, fun h => by cases h⟩
theorem fnOpsTexts_and {a b : Bool} (h : a = true) (k : b = true) : (a && b) = true := by rw [h, k]; rfl
set_option maxRecDepth 100000 in
theorem fnOpsTexts_facts : joinedFacts Tryz.pinned.checked.prog 3 Tryz.f3 Rows.fnOpsTextsSpec Rows.fnOpsTextsRow = true := by
  unfold joinedFacts
  iterate 18 (rw [Bool.and_assoc])
  refine fnOpsTexts_and ?_ ?_
  · as_aux_lemma => kernel_rfl
  · as_aux_lemma => kernel_rfl
theorem fnOpsTexts_row : Rows.FnOpsTextsSaid :=
  OpenClaim.holds_of_wide 3 Tryz.f3 rfl rfl rfl rfl rfl rfl rfl ⟨rfl, rfl, rfl, rfl, rfl⟩ rfl rfl rfl rfl rfl (by kernel_rfl) Tryz.func3 fnOpsTexts_facts
    (of_decide_eq_true (by kernel_rfl)) (by unfold Func.isWrapper; first | (rw [if_pos (by decide +kernel)]; kernel_rfl) | (rw [if_neg (by decide +kernel)]; exact ⟨rfl, rfl⟩))
    (fun os started H enc _ => fnOpsTexts_lifted os started H enc)
theorem fnOpsTexts_proved : Rows.FnOpsTextsCardSaid :=
  Claim7.holds_tied_plain_at .later [] [.data, .data, .data, .data, .sentinel, .sentinel, .pinned] true (true, "fa1cdc7bd371ac36be46feaa8edcfd9c1abc85fab5c4da3d361d8aa0cbe0ea75") true
    fnOpsTexts_row (fun _ h => by cases h) (by kernel_rfl) (fun _ h => by cases h) fnOpsTexts_row_tie rfl ⟨rfl, rfl⟩ (by kernel_rfl) rfl
    (fun f fn hf hfn => by
      obtain rfl : f = 3 := Option.some.inj ((show Tryz.prog.funcNamed "loop.example/g00850/laws.FnOpsTexts" = some 3 by kernel_rfl).symm.trans hf) |>.symm
      obtain rfl : fn = Tryz.f3 := (Option.some.inj (Tryz.func3.symm.trans hfn)).symm
      exact ⟨by kernel_rfl, fun j t ht => by
        rw [Tryz.params3] at ht
        have hm : t ∈ [22, 22] := by simpa using Array.mem_of_getElem? ht
        have hall : ([22, 22].all fun u => !Tryz.prog.wantsStandIn u) = true := by kernel_rfl
        exact (show Tryz.prog.wantsStandIn t = false by simpa using List.all_eq_true.1 hall t hm)⟩)
    (by kernel_rfl)
end Go.Proofs.YtmlmmgeadombbaaGreatDoor
