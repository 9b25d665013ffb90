/- Walks: drawing from bytes. -/
import Derived.Test.YteliahajeokciaaDrawM
import Derived.Test.YteliahajeokciaaTypesW
set_option linter.unusedVariables false
set_option linter.unusedSimpArgs false
set_option maxRecDepth 100000
namespace Go.Proofs.Yteliahajeokciaa
open Go Go.AV Go.M
attribute [local irreducible] OpW OpA OpS AWP FSpec ESpec GSpec OpE RetOk RetOkG RvDen Le Ev GuardIs SrcIs Int.tmod IntKind.wrap bandI
theorem curNext_own (b : Nat) (code : List Int) (hcode : ByteL code) (c : TCur) (hp : c.p ≤ 8000000) : GSpec Try.prog 226 [AV.ptr b 0] [.box b 123 (curC code c)] (fun x : TCur × Int => x.1.p ≤ c.p + 1 ∧ 0 ≤ x.2 ∧ x.2 ≤ 255) (fun x => [.box b 123 (curC code x.1)]) (fun x => AV.int x.2) := by
  have hcb := hcode
  refine gspec_of_awp Try.func226 rfl Try.ntmps226 rfl ?_
  refine awp_seq ?_
  refine awp_region ?_
  refine sq_plain rfl rfl rfl (w_assign rfl ev_ci) ?_
  refine sq_nil ?_
  refine awp_seq ?_
  refine awp_region ?_
  try rw [wrapS hzb]
  refine sq_plain rfl rfl rfl (w_assign rfl ev_ci) ?_
  refine sq_nil ?_
  refine awp_seq ?_
  refine awp_seq ?_
  refine awp_region_any (by kernel_rfl) (by kernel_rfl) rfl ?_
  refine ch_plain rfl rfl (w_move rfl (ev_tmp rfl)) ?_
  refine ch_plain rfl rfl (w_nilB rfl (ev_tmp rfl)) ?_
  refine ch_plain rfl rfl (w_fldBn 1 rfl Try.underlying123 rfl Try.sizeOf3 (ev_tmp rfl) rfl) ?_
  refine ch_plain rfl rfl (w_loadB1 0 rfl (ev_tmp rfl) rfl Try.isAgg3 rfl) ?_
  refine ch_plain rfl rfl (w_move rfl (ev_tmp rfl)) ?_
  refine ch_plain rfl rfl (w_nilB rfl (ev_tmp rfl)) ?_
  refine ch_plain rfl rfl (w_fldBn 0 rfl Try.underlying123 rfl Try.sizeOf22 (ev_tmp rfl) rfl) ?_
  refine ch_plain rfl rfl (w_loadB1 0 rfl (ev_tmp rfl) rfl Try.isAgg22 rfl) ?_
  refine ch_plain rfl rfl (w_llen rfl Try.underlying22 (ev_tmp rfl)) ?_
  refine ch_plain rfl rfl (w_lss rfl (ev_tmp rfl) (ev_tmp rfl)) ?_
  refine ch_nil ?_
  refine awp_cond (ev_tmp rfl) ?_ ?_
  · intro h13
    have k13 := of_decide_eq_true h13; try simp only [List.length_map] at k13
    obtain ⟨z, hz⟩ := get_some (show c.p < code.length by omega)
    have hzb := hcb z (List.mem_of_getElem? hz)
    refine awp_region_any (by kernel_rfl) (by kernel_rfl) rfl ?_
    refine ch_plain rfl rfl (w_move rfl (ev_tmp rfl)) ?_
    refine ch_plain rfl rfl (w_nilB rfl (ev_tmp rfl)) ?_
    refine ch_plain rfl rfl (w_fldBn 0 rfl Try.underlying123 rfl Try.sizeOf22 (ev_tmp rfl) rfl) ?_
    refine ch_plain rfl rfl (w_loadB1 0 rfl (ev_tmp rfl) rfl Try.isAgg22 rfl) ?_
    refine ch_plain rfl rfl (w_move rfl (ev_tmp rfl)) ?_
    refine ch_plain rfl rfl (w_nilB rfl (ev_tmp rfl)) ?_
    refine ch_plain rfl rfl (w_fldBn 1 rfl Try.underlying123 rfl Try.sizeOf3 (ev_tmp rfl) rfl) ?_
    refine ch_plain rfl rfl (w_loadB1 0 rfl (ev_tmp rfl) rfl Try.isAgg3 rfl) ?_
    refine ch_plain rfl rfl (w_idxm rfl Try.underlying22 Try.sizeOf5 (ev_tmp rfl) (ev_tmp rfl) hz rfl) ?_
    refine ch_plain rfl rfl (w_loadE1 rfl (ev_tmp rfl) Try.isAgg5 rfl) ?_
    refine ch_plain rfl rfl (w_conv rfl (by kernel_rfl) Try.underlying3 (ev_tmp rfl)) ?_
    try rw [wrapS hzb]
    refine ch_plain rfl rfl (w_assign rfl (ev_tmp rfl)) ?_
    refine ch_nil ?_
    refine awp_seq ?_
    refine awp_region ?_
    refine sq_plain rfl rfl rfl (w_move rfl (ev_tmp rfl)) ?_
    refine sq_plain rfl rfl rfl (w_nilB rfl (ev_tmp rfl)) ?_
    refine sq_plain rfl rfl rfl (w_fldBn 1 rfl Try.underlying123 rfl Try.sizeOf3 (ev_tmp rfl) rfl) ?_
    refine sq_plain rfl rfl rfl (w_loadB1 0 rfl (ev_tmp rfl) rfl Try.isAgg3 rfl) ?_
    refine sq_plain rfl rfl rfl (w_addi rfl (ev_tmp rfl) ev_ci (by first | omega | ((try simp only [List.length_map, List.length_take, List.length_cons, List.length_nil, chunks_len, szR] at *); omega) | (have hc2 := hc; simp only [Bool.and_eq_true, Bool.or_eq_true, Bool.or_eq_false_iff, Bool.and_eq_false_iff, Bool.not_eq_true', Bool.not_eq_false', decide_eq_true_eq, decide_eq_false_iff_not, beq_iff_eq, bne_iff_ne, List.length_map, List.length_take] at hc2; omega))) ?_
    refine sq_plain rfl rfl rfl (w_nilB rfl (ev_tmp rfl)) ?_
    refine sq_plain rfl rfl rfl (w_fldBn 1 rfl Try.underlying123 rfl Try.sizeOf3 (ev_tmp rfl) rfl) ?_
    refine sq_storeB1 0 rfl rfl rfl (ev_tmp rfl) (ev_tmp rfl) (as_ik _ _) rfl Try.sizeOf3 rfl ?_
    refine sq_nil ?_
    refine awp_seq ?_
    refine awp_region ?_
    refine sq_plain rfl rfl rfl (w_move rfl (ev_tmp rfl)) ?_
    refine sq_plain rfl rfl rfl (w_move rfl (ev_tmp rfl)) ?_
    refine sq_plain rfl rfl rfl (w_nilB rfl (ev_tmp rfl)) ?_
    refine sq_plain rfl rfl rfl (w_fldBn 2 rfl Try.underlying123 rfl Try.sizeOf121 (ev_tmp rfl) rfl) ?_
    refine sq_plain rfl rfl rfl (w_loadB1 0 rfl (ev_tmp rfl) rfl Try.isAgg121 rfl) ?_
    refine sq_plain rfl rfl rfl (w_mul rfl (ev_tmp rfl) ev_ci) ?_
    refine sq_plain rfl rfl rfl (w_move rfl (ev_tmp rfl)) ?_
    refine sq_plain rfl rfl rfl (w_conv rfl (by kernel_rfl) Try.underlying121 (ev_tmp rfl)) ?_
    refine sq_plain rfl rfl rfl (w_add rfl (ev_tmp rfl) (ev_tmp rfl)) ?_
    refine sq_plain rfl rfl rfl (w_add rfl (ev_tmp rfl) ev_ci) ?_
    refine sq_plain rfl rfl rfl (w_nilB rfl (ev_tmp rfl)) ?_
    refine sq_plain rfl rfl rfl (w_fldBn 2 rfl Try.underlying123 rfl Try.sizeOf121 (ev_tmp rfl) rfl) ?_
    refine sq_storeB1 0 rfl rfl rfl (ev_tmp rfl) (ev_tmp rfl) (as_ik _ _) rfl Try.sizeOf121 rfl ?_
    refine sq_nil ?_
    refine awp_seq ?_
    refine awp_seq ?_
    refine awp_region_any (by kernel_rfl) (by kernel_rfl) rfl ?_
    refine ch_plain rfl rfl (w_move rfl (ev_tmp rfl)) ?_
    refine ch_plain rfl rfl (w_nilB rfl (ev_tmp rfl)) ?_
    refine ch_plain rfl rfl (w_fldBn 1 rfl Try.underlying123 rfl Try.sizeOf3 (ev_tmp rfl) rfl) ?_
    refine ch_plain rfl rfl (w_loadB1 0 rfl (ev_tmp rfl) rfl Try.isAgg3 rfl) ?_
    refine ch_plain rfl rfl (w_move rfl (ev_tmp rfl)) ?_
    refine ch_plain rfl rfl (w_nilB rfl (ev_tmp rfl)) ?_
    refine ch_plain rfl rfl (w_fldBn 0 rfl Try.underlying123 rfl Try.sizeOf22 (ev_tmp rfl) rfl) ?_
    refine ch_plain rfl rfl (w_loadB1 0 rfl (ev_tmp rfl) rfl Try.isAgg22 rfl) ?_
    refine ch_plain rfl rfl (w_llen rfl Try.underlying22 (ev_tmp rfl)) ?_
    refine ch_plain rfl rfl (w_leq rfl (ev_tmp rfl) (ev_tmp rfl)) ?_
    refine ch_nil ?_
    refine awp_cond (ev_tmp rfl) ?_ ?_
    · intro h53
      have k53 := of_decide_eq_true h53; try simp only [List.length_map] at k53
      refine awp_seq ?_
      refine awp_region ?_
      refine sq_plain rfl rfl rfl (w_move rfl (ev_tmp rfl)) ?_
      refine sq_plain rfl rfl rfl (w_assign rfl (ev_tmp rfl)) ?_
      refine sq_nil ?_
      refine awp_ret ?_
      (refine retG [0] ((⟨c.p + 1, _⟩, _)) ?_ rfl (by first | (dsimp only; rfl) | rfl) (resR rfl (rv_tmp' rfl (by first | rfl | (refine congrArg AV.bool ?_; simp_all; done)))); first | exact ⟨Nat.le_refl _, hzb⟩ | exact ⟨Nat.le_refl _, Int.le_refl 0, (show (0 : Int) ≤ 255 by decide)⟩ | (rw [wrapS (bandI_255 _)]; exact ⟨Nat.le_refl _, bandI_255 _⟩))
    · intro h53
      have k53 := of_decide_eq_false h53; try simp only [List.length_map] at k53
      refine awp_skip ?_
      refine awp_seq ?_
      refine awp_region ?_
      refine sq_plain rfl rfl rfl (w_move rfl (ev_tmp rfl)) ?_
      refine sq_plain rfl rfl rfl (w_nilB rfl (ev_tmp rfl)) ?_
      refine sq_plain rfl rfl rfl (w_fldBn 2 rfl Try.underlying123 rfl Try.sizeOf121 (ev_tmp rfl) rfl) ?_
      refine sq_plain rfl rfl rfl (w_loadB1 0 rfl (ev_tmp rfl) rfl Try.isAgg121 rfl) ?_
      refine sq_plain rfl rfl rfl (w_shr rfl (ev_tmp rfl) ev_ci (by decide) (by decide)) ?_
      refine sq_plain rfl rfl rfl (w_band rfl (ev_tmp rfl) ev_ci) ?_
      refine sq_plain rfl rfl rfl (w_conv rfl (by kernel_rfl) Try.underlying3 (ev_tmp rfl)) ?_
      refine sq_plain rfl rfl rfl (w_assign rfl (ev_tmp rfl)) ?_
      refine sq_nil ?_
      refine awp_ret ?_
      (refine retG [0] ((⟨c.p + 1, _⟩, _)) ?_ rfl (by first | (dsimp only; rfl) | rfl) (resR rfl (rv_tmp' rfl (by first | rfl | (refine congrArg AV.bool ?_; simp_all; done)))); first | exact ⟨Nat.le_refl _, hzb⟩ | exact ⟨Nat.le_refl _, Int.le_refl 0, (show (0 : Int) ≤ 255 by decide)⟩ | (rw [wrapS (bandI_255 _)]; exact ⟨Nat.le_refl _, bandI_255 _⟩))
  · intro h13
    have k13 := of_decide_eq_false h13; try simp only [List.length_map] at k13
    refine awp_skip ?_
    refine awp_seq ?_
    refine awp_region ?_
    refine sq_plain rfl rfl rfl (w_move rfl (ev_tmp rfl)) ?_
    refine sq_plain rfl rfl rfl (w_nilB rfl (ev_tmp rfl)) ?_
    refine sq_plain rfl rfl rfl (w_fldBn 1 rfl Try.underlying123 rfl Try.sizeOf3 (ev_tmp rfl) rfl) ?_
    refine sq_plain rfl rfl rfl (w_loadB1 0 rfl (ev_tmp rfl) rfl Try.isAgg3 rfl) ?_
    refine sq_plain rfl rfl rfl (w_addi rfl (ev_tmp rfl) ev_ci (by first | omega | ((try simp only [List.length_map, List.length_take, List.length_cons, List.length_nil, chunks_len, szR] at *); omega) | (have hc2 := hc; simp only [Bool.and_eq_true, Bool.or_eq_true, Bool.or_eq_false_iff, Bool.and_eq_false_iff, Bool.not_eq_true', Bool.not_eq_false', decide_eq_true_eq, decide_eq_false_iff_not, beq_iff_eq, bne_iff_ne, List.length_map, List.length_take] at hc2; omega))) ?_
    refine sq_plain rfl rfl rfl (w_nilB rfl (ev_tmp rfl)) ?_
    refine sq_plain rfl rfl rfl (w_fldBn 1 rfl Try.underlying123 rfl Try.sizeOf3 (ev_tmp rfl) rfl) ?_
    refine sq_storeB1 0 rfl rfl rfl (ev_tmp rfl) (ev_tmp rfl) (as_ik _ _) rfl Try.sizeOf3 rfl ?_
    refine sq_nil ?_
    refine awp_seq ?_
    refine awp_region ?_
    refine sq_plain rfl rfl rfl (w_move rfl (ev_tmp rfl)) ?_
    refine sq_plain rfl rfl rfl (w_move rfl (ev_tmp rfl)) ?_
    refine sq_plain rfl rfl rfl (w_nilB rfl (ev_tmp rfl)) ?_
    refine sq_plain rfl rfl rfl (w_fldBn 2 rfl Try.underlying123 rfl Try.sizeOf121 (ev_tmp rfl) rfl) ?_
    refine sq_plain rfl rfl rfl (w_loadB1 0 rfl (ev_tmp rfl) rfl Try.isAgg121 rfl) ?_
    refine sq_plain rfl rfl rfl (w_mul rfl (ev_tmp rfl) ev_ci) ?_
    refine sq_plain rfl rfl rfl (w_move rfl (ev_tmp rfl)) ?_
    refine sq_plain rfl rfl rfl (w_conv rfl (by kernel_rfl) Try.underlying121 (ev_tmp rfl)) ?_
    refine sq_plain rfl rfl rfl (w_add rfl (ev_tmp rfl) (ev_tmp rfl)) ?_
    refine sq_plain rfl rfl rfl (w_add rfl (ev_tmp rfl) ev_ci) ?_
    refine sq_plain rfl rfl rfl (w_nilB rfl (ev_tmp rfl)) ?_
    refine sq_plain rfl rfl rfl (w_fldBn 2 rfl Try.underlying123 rfl Try.sizeOf121 (ev_tmp rfl) rfl) ?_
    refine sq_storeB1 0 rfl rfl rfl (ev_tmp rfl) (ev_tmp rfl) (as_ik _ _) rfl Try.sizeOf121 rfl ?_
    refine sq_nil ?_
    refine awp_seq ?_
    refine awp_seq ?_
    refine awp_region_any (by kernel_rfl) (by kernel_rfl) rfl ?_
    refine ch_plain rfl rfl (w_move rfl (ev_tmp rfl)) ?_
    refine ch_plain rfl rfl (w_nilB rfl (ev_tmp rfl)) ?_
    refine ch_plain rfl rfl (w_fldBn 1 rfl Try.underlying123 rfl Try.sizeOf3 (ev_tmp rfl) rfl) ?_
    refine ch_plain rfl rfl (w_loadB1 0 rfl (ev_tmp rfl) rfl Try.isAgg3 rfl) ?_
    refine ch_plain rfl rfl (w_move rfl (ev_tmp rfl)) ?_
    refine ch_plain rfl rfl (w_nilB rfl (ev_tmp rfl)) ?_
    refine ch_plain rfl rfl (w_fldBn 0 rfl Try.underlying123 rfl Try.sizeOf22 (ev_tmp rfl) rfl) ?_
    refine ch_plain rfl rfl (w_loadB1 0 rfl (ev_tmp rfl) rfl Try.isAgg22 rfl) ?_
    refine ch_plain rfl rfl (w_llen rfl Try.underlying22 (ev_tmp rfl)) ?_
    refine ch_plain rfl rfl (w_leq rfl (ev_tmp rfl) (ev_tmp rfl)) ?_
    refine ch_nil ?_
    refine awp_cond (ev_tmp rfl) ?_ ?_
    · intro h53
      have k53 := of_decide_eq_true h53; try simp only [List.length_map] at k53
      refine awp_seq ?_
      refine awp_region ?_
      refine sq_plain rfl rfl rfl (w_move rfl (ev_tmp rfl)) ?_
      refine sq_plain rfl rfl rfl (w_assign rfl (ev_tmp rfl)) ?_
      refine sq_nil ?_
      refine awp_ret ?_
      (refine retG [0] ((⟨c.p + 1, _⟩, _)) ?_ rfl (by first | (dsimp only; rfl) | rfl) (resR rfl (rv_tmp' rfl (by first | rfl | (refine congrArg AV.bool ?_; simp_all; done)))); first | exact ⟨Nat.le_refl _, hzb⟩ | exact ⟨Nat.le_refl _, Int.le_refl 0, (show (0 : Int) ≤ 255 by decide)⟩ | (rw [wrapS (bandI_255 _)]; exact ⟨Nat.le_refl _, bandI_255 _⟩))
    · intro h53
      have k53 := of_decide_eq_false h53; try simp only [List.length_map] at k53
      refine awp_skip ?_
      refine awp_seq ?_
      refine awp_region ?_
      refine sq_plain rfl rfl rfl (w_move rfl (ev_tmp rfl)) ?_
      refine sq_plain rfl rfl rfl (w_nilB rfl (ev_tmp rfl)) ?_
      refine sq_plain rfl rfl rfl (w_fldBn 2 rfl Try.underlying123 rfl Try.sizeOf121 (ev_tmp rfl) rfl) ?_
      refine sq_plain rfl rfl rfl (w_loadB1 0 rfl (ev_tmp rfl) rfl Try.isAgg121 rfl) ?_
      refine sq_plain rfl rfl rfl (w_shr rfl (ev_tmp rfl) ev_ci (by decide) (by decide)) ?_
      refine sq_plain rfl rfl rfl (w_band rfl (ev_tmp rfl) ev_ci) ?_
      refine sq_plain rfl rfl rfl (w_conv rfl (by kernel_rfl) Try.underlying3 (ev_tmp rfl)) ?_
      refine sq_plain rfl rfl rfl (w_assign rfl (ev_tmp rfl)) ?_
      refine sq_nil ?_
      refine awp_ret ?_
      (refine retG [0] ((⟨c.p + 1, _⟩, _)) ?_ rfl (by first | (dsimp only; rfl) | rfl) (resR rfl (rv_tmp' rfl (by first | rfl | (refine congrArg AV.bool ?_; simp_all; done)))); first | exact ⟨Nat.le_refl _, hzb⟩ | exact ⟨Nat.le_refl _, Int.le_refl 0, (show (0 : Int) ≤ 255 by decide)⟩ | (rw [wrapS (bandI_255 _)]; exact ⟨Nat.le_refl _, bandI_255 _⟩))
theorem curPick_own (b : Nat) (code : List Int) (hcode : ByteL code) (c : TCur) (n : Int) (hn : n ≤ 1000000) (hp : c.p ≤ 7000000) : GSpec Try.prog 131 [AV.ptr b 0, AV.int n] [.box b 123 (curC code c)] (fun x : TCur × Int => x.1.p ≤ c.p + 2 ∧ 0 ≤ x.2 ∧ (x.2 < n ∨ x.2 = 0)) (fun x => [.box b 123 (curC code x.1)]) (fun x => AV.int x.2) := by
  refine gspec_of_awp Try.func131 rfl Try.ntmps131 rfl ?_
  refine awp_seq ?_
  refine awp_region ?_
  refine sq_plain rfl rfl rfl (w_assign rfl ev_ci) ?_
  refine sq_nil ?_
  refine awp_seq ?_
  refine awp_seq ?_
  refine awp_region ?_
  refine sq_plain rfl rfl rfl (w_move rfl (ev_tmp rfl)) ?_
  refine sq_plain rfl rfl rfl (w_leq rfl (ev_tmp rfl) ev_ci) ?_
  refine sq_nil ?_
  refine awp_cond (ev_tmp rfl) ?_ ?_
  · intro h7
    have k7 := of_decide_eq_true h7; try simp only [List.length_map] at k7
    refine awp_seq ?_
    refine awp_region ?_
    refine sq_plain rfl rfl rfl (w_assign rfl ev_ci) ?_
    refine sq_nil ?_
    refine awp_ret ?_
    (refine retG [0] ((_, _)) ?_ rfl (by first | (dsimp only; rfl) | rfl) (resR rfl (rv_tmp' rfl (by first | rfl | (refine congrArg AV.bool ?_; simp_all; done)))); (dsimp only; first | omega | exact ⟨by omega, Int.tmod_nonneg _ (by omega), .inl (Int.tmod_lt_of_pos _ (by omega))⟩))
  · intro h7
    have k7 := of_decide_eq_false h7; try simp only [List.length_map] at k7
    refine awp_skip ?_
    refine awp_seq ?_
    refine awp_region ?_
    refine sq_plain rfl rfl rfl (w_move rfl (ev_tmp rfl)) ?_
    refine sq_callG [0] rfl rfl rfl rfl Try.call226 rfl (curNext_own _ _ hcode _ (by omega)) (evl_cons (ev_tmp rfl) evl_nil) rfl ?_
    intro x9 ok9
    refine sq_plain rfl rfl rfl (w_assign rfl (ev_tmp rfl)) ?_
    refine sq_nil ?_
    refine awp_seq ?_
    refine awp_seq ?_
    refine awp_region ?_
    refine sq_plain rfl rfl rfl (w_move rfl (ev_tmp rfl)) ?_
    refine sq_plain rfl rfl rfl (w_gtr rfl (ev_tmp rfl) ev_ci) ?_
    refine sq_nil ?_
    refine awp_cond (ev_tmp rfl) ?_ ?_
    · intro h11
      have k11 := of_decide_eq_true h11; try simp only [List.length_map] at k11
      refine awp_region ?_
      refine sq_plain rfl rfl rfl (w_move rfl (ev_tmp rfl)) ?_
      refine sq_plain rfl rfl rfl (w_muli rfl (ev_tmp rfl) ev_ci (by first | omega | ((try simp only [List.length_map, List.length_take, List.length_cons, List.length_nil, chunks_len, szR] at *); omega) | (have hc2 := hc; simp only [Bool.and_eq_true, Bool.or_eq_true, Bool.or_eq_false_iff, Bool.and_eq_false_iff, Bool.not_eq_true', Bool.not_eq_false', decide_eq_true_eq, decide_eq_false_iff_not, beq_iff_eq, bne_iff_ne, List.length_map, List.length_take] at hc2; omega))) ?_
      refine sq_plain rfl rfl rfl (w_move rfl (ev_tmp rfl)) ?_
      refine sq_callG [0] rfl rfl rfl rfl Try.call226 rfl (curNext_own _ _ hcode _ (by omega)) (evl_cons (ev_tmp rfl) evl_nil) rfl ?_
      intro x15 ok15
      refine sq_plain rfl rfl rfl (w_addi rfl (ev_tmp rfl) (ev_tmp rfl) (by first | omega | ((try simp only [List.length_map, List.length_take, List.length_cons, List.length_nil, chunks_len, szR] at *); omega) | (have hc2 := hc; simp only [Bool.and_eq_true, Bool.or_eq_true, Bool.or_eq_false_iff, Bool.and_eq_false_iff, Bool.not_eq_true', Bool.not_eq_false', decide_eq_true_eq, decide_eq_false_iff_not, beq_iff_eq, bne_iff_ne, List.length_map, List.length_take] at hc2; omega))) ?_
      refine sq_plain rfl rfl rfl (w_assign rfl (ev_tmp rfl)) ?_
      refine sq_nil ?_
      refine awp_seq ?_
      refine awp_region ?_
      refine sq_plain rfl rfl rfl (w_move rfl (ev_tmp rfl)) ?_
      refine sq_plain rfl rfl rfl (w_move rfl (ev_tmp rfl)) ?_
      refine sq_plain rfl rfl rfl (w_rem rfl (ev_tmp rfl) (ev_tmp rfl) (by omega)) ?_
      refine sq_plain rfl rfl rfl (w_assign rfl (ev_tmp rfl)) ?_
      refine sq_nil ?_
      refine awp_ret ?_
      (refine retG [0] ((_, _)) ?_ rfl (by first | (dsimp only; rfl) | rfl) (resR rfl (rv_tmp' rfl (by first | rfl | (refine congrArg AV.bool ?_; simp_all; done)))); (dsimp only; first | omega | exact ⟨by omega, Int.tmod_nonneg _ (by omega), .inl (Int.tmod_lt_of_pos _ (by omega))⟩))
    · intro h11
      have k11 := of_decide_eq_false h11; try simp only [List.length_map] at k11
      refine awp_skip ?_
      refine awp_seq ?_
      refine awp_region ?_
      refine sq_plain rfl rfl rfl (w_move rfl (ev_tmp rfl)) ?_
      refine sq_plain rfl rfl rfl (w_move rfl (ev_tmp rfl)) ?_
      refine sq_plain rfl rfl rfl (w_rem rfl (ev_tmp rfl) (ev_tmp rfl) (by omega)) ?_
      refine sq_plain rfl rfl rfl (w_assign rfl (ev_tmp rfl)) ?_
      refine sq_nil ?_
      refine awp_ret ?_
      (refine retG [0] ((_, _)) ?_ rfl (by first | (dsimp only; rfl) | rfl) (resR rfl (rv_tmp' rfl (by first | rfl | (refine congrArg AV.bool ?_; simp_all; done)))); (dsimp only; first | omega | exact ⟨by omega, Int.tmod_nonneg _ (by omega), .inl (Int.tmod_lt_of_pos _ (by omega))⟩))
theorem curOne_own (b : Nat) (code : List Int) (hcode : ByteL code) (c : TCur) (n : Int) (hn : n ≤ 1000000) (hp : c.p ≤ 7000000) : GSpec Try.prog 170 [AV.ptr b 0, AV.int n] [.box b 123 (curC code c)] (fun x : TCur × Bool => x.1.p ≤ c.p + 2) (fun x => [.box b 123 (curC code x.1)]) (fun x => AV.bool x.2) := by
  refine gspec_of_awp Try.func170 rfl Try.ntmps170 rfl ?_
  refine awp_seq ?_
  refine awp_region ?_
  refine sq_plain rfl rfl rfl (w_assign rfl ev_cb) ?_
  refine sq_nil ?_
  refine awp_seq ?_
  refine awp_region ?_
  refine sq_plain rfl rfl rfl (w_move rfl (ev_tmp rfl)) ?_
  refine sq_plain rfl rfl rfl (w_move rfl (ev_tmp rfl)) ?_
  refine sq_callG [0] rfl rfl rfl rfl Try.call131 rfl (curPick_own _ _ hcode _ _ (by omega) (by omega)) (evl_cons (ev_tmp rfl) (evl_cons (ev_tmp rfl) evl_nil)) rfl ?_
  intro x7 ok7
  refine sq_plain rfl rfl rfl (w_eql rfl (ev_tmp rfl) ev_ci) ?_
  refine sq_plain rfl rfl rfl (w_assign rfl (ev_tmp rfl)) ?_
  refine sq_nil ?_
  refine awp_ret ?_
  (refine retG [0] ((_, _)) ?_ rfl (by first | (dsimp only; rfl) | rfl) (resR rfl (rv_tmp' rfl (by rfl))); exact ok7.1)
theorem curOf_own (b : Nat) (code : List Int) (hcode : ByteL code) (c : TCur) (l : List Str) (hl : (∀ s ∈ l, s.length ≤ 64) ∧ 1 ≤ l.length ∧ l.length ≤ 1000) (hp : c.p ≤ 7000000) : GSpec Try.prog 113 [AV.ptr b 0, strs l] [.box b 123 (curC code c)] (fun x : TCur × Str => x.1.p ≤ c.p + 2 ∧ x.2.length ≤ 64) (fun x => [.box b 123 (curC code x.1)]) (fun x => AV.str x.2) := by
  obtain ⟨hls, hl1, hl2⟩ := hl
  refine gspec_of_awp Try.func113 rfl Try.ntmps113 rfl ?_
  refine awp_seq ?_
  refine awp_region ?_
  refine sq_plain rfl rfl rfl (w_assign rfl (ev_cs' (l := []) rfl)) ?_
  refine sq_nil ?_
  refine awp_seq ?_
  refine awp_region ?_
  refine sq_plain rfl rfl rfl (w_move rfl (ev_tmp rfl)) ?_
  refine sq_plain rfl rfl rfl (w_move rfl (ev_tmp rfl)) ?_
  refine sq_plain rfl rfl rfl (w_move rfl (ev_tmp rfl)) ?_
  refine sq_plain rfl rfl rfl (w_llen rfl Try.underlying29 (ev_tmp rfl)) ?_
  refine sq_callG [0] rfl rfl rfl rfl Try.call131 rfl (curPick_own _ _ hcode _ _ (by simp only [List.length_map]; omega) (by omega)) (evl_cons (ev_tmp rfl) (evl_cons (ev_tmp rfl) evl_nil)) rfl ?_
  intro x9 ok9
  simp only [List.length_map] at ok9
  obtain ⟨y, hy⟩ := get_some (show x9.2.toNat < l.length by omega)
  refine sq_plain rfl rfl rfl (w_idxm rfl Try.underlying29 Try.sizeOf9 (ev_tmp rfl) (ev_tmp rfl) hy (by omega)) ?_
  refine sq_plain rfl rfl rfl (w_loadE1 rfl (ev_tmp rfl) Try.isAgg9 rfl) ?_
  refine sq_plain rfl rfl rfl (w_assign rfl (ev_tmp rfl)) ?_
  refine sq_nil ?_
  refine awp_ret ?_
  (refine retG [0] ((_, _)) ?_ rfl (by first | (dsimp only; rfl) | rfl) (resR rfl (rv_tmp' rfl (by rfl))); exact ⟨ok9.1, hls _ (List.mem_of_getElem? hy)⟩)
theorem curAmong_own (b : Nat) (code : List Int) (hcode : ByteL code) (c : TCur) (l : List Int) (hl : 1 ≤ l.length ∧ l.length ≤ 1000) (hp : c.p ≤ 7000000) : GSpec Try.prog 107 [AV.ptr b 0, ints l] [.box b 123 (curC code c)] (fun x : TCur × Int => x.1.p ≤ c.p + 2 ∧ x.2 ∈ l) (fun x => [.box b 123 (curC code x.1)]) (fun x => AV.int x.2) := by
  obtain ⟨hl1, hl2⟩ := hl
  refine gspec_of_awp Try.func107 rfl Try.ntmps107 rfl ?_
  refine awp_seq ?_
  refine awp_region ?_
  refine sq_plain rfl rfl rfl (w_assign rfl ev_ci) ?_
  refine sq_nil ?_
  refine awp_seq ?_
  refine awp_region ?_
  refine sq_plain rfl rfl rfl (w_move rfl (ev_tmp rfl)) ?_
  refine sq_plain rfl rfl rfl (w_move rfl (ev_tmp rfl)) ?_
  refine sq_plain rfl rfl rfl (w_move rfl (ev_tmp rfl)) ?_
  refine sq_plain rfl rfl rfl (w_llen rfl Try.underlying94 (ev_tmp rfl)) ?_
  refine sq_callG [0] rfl rfl rfl rfl Try.call131 rfl (curPick_own _ _ hcode _ _ (by simp only [List.length_map]; omega) (by omega)) (evl_cons (ev_tmp rfl) (evl_cons (ev_tmp rfl) evl_nil)) rfl ?_
  intro x9 ok9
  simp only [List.length_map] at ok9
  obtain ⟨y, hy⟩ := get_some (show x9.2.toNat < l.length by omega)
  refine sq_plain rfl rfl rfl (w_idxm rfl Try.underlying94 Try.sizeOf3 (ev_tmp rfl) (ev_tmp rfl) hy (by omega)) ?_
  refine sq_plain rfl rfl rfl (w_loadE1 rfl (ev_tmp rfl) Try.isAgg3 rfl) ?_
  refine sq_plain rfl rfl rfl (w_assign rfl (ev_tmp rfl)) ?_
  refine sq_nil ?_
  refine awp_ret ?_
  (refine retG [0] ((_, _)) ?_ rfl (by first | (dsimp only; rfl) | rfl) (resR rfl (rv_tmp' rfl (by rfl))); exact ⟨ok9.1, List.mem_of_getElem? hy⟩)
end Go.Proofs.Yteliahajeokciaa
