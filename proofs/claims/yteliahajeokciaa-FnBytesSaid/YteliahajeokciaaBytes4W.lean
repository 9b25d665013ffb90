/- Walks: the functions that read; drawn bytes. -/
import Derived.Test.YteliahajeokciaaBytes3W
import Derived.Test.YteliahajeokciaaDrawW
set_option linter.unusedVariables false
set_option linter.unusedSimpArgs false
set_option maxRecDepth 100000
namespace Go.Proofs.Yteliahajeokciaa
open Go Go.AV Go.M
attribute [local irreducible] OpW OpA OpS AWP FSpec ESpec GSpec OpE RetOk RetOkG RvDen Le Ev GuardIs SrcIs Int.tmod Int.tdiv IntKind.wrap bandI
theorem l1Text_own (q : Nat) (b : Str) (s : TSrc) (hs : s.at' ≤ b.length) (hb : b.length ≤ 1048576) : GSpec Try.prog 128 [AV.ptr q 0] [.box q 142 (srcC b s)] (fun x : TSrc × Str => TextOk b s x) (fun x => [.box q 142 (srcC b x.1)]) (fun x => AV.str x.2) := by
  refine gspec_of_awp Try.func128 rfl Try.ntmps128 rfl ?_
  refine awp_seq ?_
  refine awp_region ?_
  refine sq_plain rfl rfl rfl (w_assign rfl (ev_cs' (l := []) rfl)) ?_
  refine sq_nil ?_
  refine awp_seq ?_
  refine awp_region ?_
  refine sq_plain rfl rfl rfl (w_move rfl (ev_tmp rfl)) ?_
  refine sq_callG [0] rfl rfl rfl rfl Try.call127 rfl (l1Num_own q b s hs hb) (evl_cons (ev_tmp rfl) evl_nil) rfl ?_
  intro x5 ok5
  obtain ⟨hk1, hk2⟩ := textOk_s hs ok5
  have hn9 := ok5.2.1
  have ha9 := ok5.1.2
  refine sq_plain rfl rfl rfl (w_assign rfl (ev_tmp rfl)) ?_
  refine sq_nil ?_
  refine awp_seq ?_
  refine awp_seq ?_
  refine awp_region_any (by kernel_rfl) (by kernel_rfl) rfl ?_
  refine ch_plain rfl rfl (w_move rfl (ev_tmp rfl)) ?_
  refine ch_plain rfl rfl (w_nilB rfl (ev_tmp rfl)) ?_
  refine ch_plain rfl rfl (w_fldBn 2 rfl Try.underlying142 rfl Try.sizeOf4 (ev_tmp rfl) rfl) ?_
  refine ch_plain rfl rfl (w_loadB1 0 rfl (ev_tmp rfl) rfl Try.isAgg4 rfl) ?_
  refine ch_plain rfl rfl (w_move rfl (ev_tmp rfl)) ?_
  refine ch_grd rfl (guard_f rfl rfl rfl) (fun hc => w_move rfl (ev_tmp rfl)) ?_
  refine ch_grd rfl (guard_f rfl rfl rfl) (fun hc => w_gtr rfl (ev_whn rfl hc) ev_ci) ?_
  refine ch_plain rfl rfl (w_or rfl (ev_tmp rfl) (evif_w rfl)) ?_
  refine ch_plain rfl rfl (w_move rfl (ev_tmp rfl)) ?_
  refine ch_grd rfl (guard_f rfl rfl rfl) (fun hc => w_move rfl (ev_tmp rfl)) ?_
  refine ch_grd rfl (guard_f rfl rfl rfl) (fun hc => w_nilB rfl (ev_whn rfl hc)) ?_
  refine ch_grd rfl (guard_f rfl rfl rfl) (fun hc => w_fldBn 1 rfl Try.underlying142 rfl Try.sizeOf3 (ev_whn rfl hc) rfl) ?_
  refine ch_grd rfl (guard_f rfl rfl rfl) (fun hc => w_loadB1 0 rfl (ev_whn rfl hc) rfl Try.isAgg3 rfl) ?_
  refine ch_grd rfl (guard_f rfl rfl rfl) (fun hc => w_move rfl (ev_tmp rfl)) ?_
  refine ch_grd rfl (guard_f rfl rfl rfl) (fun hc => w_addi rfl (ev_whn rfl hc) (ev_whn rfl hc) (by omega)) ?_
  refine ch_grd rfl (guard_f rfl rfl rfl) (fun hc => w_move rfl (ev_tmp rfl)) ?_
  refine ch_grd rfl (guard_f rfl rfl rfl) (fun hc => w_nilB rfl (ev_whn rfl hc)) ?_
  refine ch_grd rfl (guard_f rfl rfl rfl) (fun hc => w_fldBn 0 rfl Try.underlying142 rfl Try.sizeOf9 (ev_whn rfl hc) rfl) ?_
  refine ch_grd rfl (guard_f rfl rfl rfl) (fun hc => w_loadB1 0 rfl (ev_whn rfl hc) rfl Try.isAgg9 rfl) ?_
  refine ch_grd rfl (guard_f rfl rfl rfl) (fun hc => w_slen rfl Try.underlying9 (ev_whn rfl hc)) ?_
  refine ch_grd rfl (guard_f rfl rfl rfl) (fun hc => w_gtr rfl (ev_whn rfl hc) (ev_whn rfl hc)) ?_
  refine ch_plain rfl rfl (w_or rfl (ev_tmp rfl) (evif_w rfl)) ?_
  refine ch_nil ?_
  refine awp_cond (ev_tmp rfl) ?_ ?_
  · intro h27
    have hok := hk1 h27
    refine awp_seq ?_
    refine awp_region ?_
    refine sq_plain rfl rfl rfl (w_move rfl (ev_tmp rfl)) ?_
    refine sq_plain rfl rfl rfl (w_nilB rfl (ev_tmp rfl)) ?_
    refine sq_plain rfl rfl rfl (w_fldBn 2 rfl Try.underlying142 rfl Try.sizeOf4 (ev_tmp rfl) rfl) ?_
    refine sq_storeB1 0 rfl rfl rfl (ev_tmp rfl) ev_cb (as_bool _) rfl Try.sizeOf4 rfl ?_
    refine sq_nil ?_
    refine awp_seq ?_
    refine awp_region ?_
    refine sq_plain rfl rfl rfl (w_assign rfl (ev_cs' (l := []) rfl)) ?_
    refine sq_nil ?_
    refine awp_ret ?_
    (refine retG [0] ((⟨x5.1.at', true⟩, [])) ?_ rfl (by first | rfl | (rw [hbe]; rfl)) (resR rfl (rv_tmp' rfl (by first | rfl | (refine congrArg AV.str ?_; rw [show ((x5.1.at' : Int) + (x5.2 : Int)).toNat = x5.1.at' + x5.2 by omega, show ((x5.1.at' : Int) + (x5.2 : Int) - (x5.2 : Int)).toNat = x5.1.at' by omega, List.drop_take, Nat.add_sub_cancel_left])))); exact hok)
  · intro h27
    obtain ⟨hok, hbf, hle, hn60⟩ := hk2 h27
    have hbe : x5.1 = ⟨x5.1.at', false⟩ := by (obtain ⟨⟨xa, xb⟩, xn⟩ := x5; simp only at hbf ⊢; rw [hbf])
    refine awp_skip ?_
    refine awp_seq ?_
    refine awp_region ?_
    refine sq_plain rfl rfl rfl (w_move rfl (ev_tmp rfl)) ?_
    refine sq_plain rfl rfl rfl (w_nilB rfl (ev_tmp rfl)) ?_
    refine sq_plain rfl rfl rfl (w_fldBn 1 rfl Try.underlying142 rfl Try.sizeOf3 (ev_tmp rfl) rfl) ?_
    refine sq_plain rfl rfl rfl (w_loadB1 0 rfl (ev_tmp rfl) rfl Try.isAgg3 rfl) ?_
    refine sq_plain rfl rfl rfl (w_move rfl (ev_tmp rfl)) ?_
    refine sq_plain rfl rfl rfl (w_addi rfl (ev_tmp rfl) (ev_tmp rfl) (by first | omega | ((try simp only [List.length_map, List.length_take, List.length_cons, List.length_nil, chunks_len, szR] at *); omega) | (have hc2 := hc; simp only [Bool.and_eq_true, Bool.or_eq_true, Bool.or_eq_false_iff, Bool.and_eq_false_iff, Bool.not_eq_true', Bool.not_eq_false', decide_eq_true_eq, decide_eq_false_iff_not, beq_iff_eq, bne_iff_ne, List.length_map, List.length_take] at hc2; omega))) ?_
    refine sq_plain rfl rfl rfl (w_nilB rfl (ev_tmp rfl)) ?_
    refine sq_plain rfl rfl rfl (w_fldBn 1 rfl Try.underlying142 rfl Try.sizeOf3 (ev_tmp rfl) rfl) ?_
    refine sq_storeB1 0 rfl rfl rfl (ev_tmp rfl) (ev_tmp rfl) (as_ik _ _) rfl Try.sizeOf3 rfl ?_
    refine sq_nil ?_
    refine awp_seq ?_
    refine awp_region_any (by kernel_rfl) (by kernel_rfl) rfl ?_
    refine ch_plain rfl rfl (w_move rfl (ev_tmp rfl)) ?_
    refine ch_plain rfl rfl (w_nilB rfl (ev_tmp rfl)) ?_
    refine ch_plain rfl rfl (w_fldBn 0 rfl Try.underlying142 rfl Try.sizeOf9 (ev_tmp rfl) rfl) ?_
    refine ch_plain rfl rfl (w_loadB1 0 rfl (ev_tmp rfl) rfl Try.isAgg9 rfl) ?_
    refine ch_plain rfl rfl (w_move rfl (ev_tmp rfl)) ?_
    refine ch_plain rfl rfl (w_nilB rfl (ev_tmp rfl)) ?_
    refine ch_plain rfl rfl (w_fldBn 1 rfl Try.underlying142 rfl Try.sizeOf3 (ev_tmp rfl) rfl) ?_
    refine ch_plain rfl rfl (w_loadB1 0 rfl (ev_tmp rfl) rfl Try.isAgg3 rfl) ?_
    refine ch_plain rfl rfl (w_move rfl (ev_tmp rfl)) ?_
    refine ch_plain rfl rfl (w_subi rfl (ev_tmp rfl) (ev_tmp rfl) (by first | omega | ((try simp only [List.length_map, List.length_take, List.length_cons, List.length_nil, chunks_len, szR] at *); omega) | (have hc2 := hc; simp only [Bool.and_eq_true, Bool.or_eq_true, Bool.or_eq_false_iff, Bool.and_eq_false_iff, Bool.not_eq_true', Bool.not_eq_false', decide_eq_true_eq, decide_eq_false_iff_not, beq_iff_eq, bne_iff_ne, List.length_map, List.length_take] at hc2; omega))) ?_
    refine ch_plain rfl rfl (w_move rfl (ev_tmp rfl)) ?_
    refine ch_plain rfl rfl (w_nilB rfl (ev_tmp rfl)) ?_
    refine ch_plain rfl rfl (w_fldBn 1 rfl Try.underlying142 rfl Try.sizeOf3 (ev_tmp rfl) rfl) ?_
    refine ch_plain rfl rfl (w_loadB1 0 rfl (ev_tmp rfl) rfl Try.isAgg3 rfl) ?_
    refine ch_plain rfl rfl (w_ssl_lohi rfl Try.underlying9 (ev_tmp rfl) (ev_tmp rfl) (ev_tmp rfl) (by first | omega | ((try simp only [List.length_map, List.length_take, List.length_cons, List.length_nil, chunks_len, szR] at *); omega) | (have hc2 := hc; simp only [Bool.and_eq_true, Bool.or_eq_true, Bool.or_eq_false_iff, Bool.and_eq_false_iff, Bool.not_eq_true', Bool.not_eq_false', decide_eq_true_eq, decide_eq_false_iff_not, beq_iff_eq, bne_iff_ne, List.length_map, List.length_take] at hc2; omega)) (by first | omega | ((try simp only [List.length_map, List.length_take, List.length_cons, List.length_nil, chunks_len, szR] at *); omega) | (have hc2 := hc; simp only [Bool.and_eq_true, Bool.or_eq_true, Bool.or_eq_false_iff, Bool.and_eq_false_iff, Bool.not_eq_true', Bool.not_eq_false', decide_eq_true_eq, decide_eq_false_iff_not, beq_iff_eq, bne_iff_ne, List.length_map, List.length_take] at hc2; omega)) (by first | omega | ((try simp only [List.length_map, List.length_take, List.length_cons, List.length_nil, chunks_len, szR] at *); omega) | (have hc2 := hc; simp only [Bool.and_eq_true, Bool.or_eq_true, Bool.or_eq_false_iff, Bool.and_eq_false_iff, Bool.not_eq_true', Bool.not_eq_false', decide_eq_true_eq, decide_eq_false_iff_not, beq_iff_eq, bne_iff_ne, List.length_map, List.length_take] at hc2; omega))) ?_
    refine ch_plain rfl rfl (w_assign rfl (ev_tmp rfl)) ?_
    refine ch_nil ?_
    refine awp_ret ?_
    (refine retG [0] ((⟨x5.1.at' + x5.2, false⟩, (b.drop x5.1.at').take x5.2)) ?_ rfl (by first | rfl | (rw [hbe]; rfl)) (resR rfl (rv_tmp' rfl (by first | rfl | (refine congrArg AV.str ?_; rw [show ((x5.1.at' : Int) + (x5.2 : Int)).toNat = x5.1.at' + x5.2 by omega, show ((x5.1.at' : Int) + (x5.2 : Int) - (x5.2 : Int)).toNat = x5.1.at' by omega, List.drop_take, Nat.add_sub_cancel_left])))); exact hok)
theorem l1Texts_own (q : Nat) (b : Str) (s : TSrc) (hs : s.at' ≤ b.length) (hb : b.length ≤ 1048576) : GSpec Try.prog 129 [AV.ptr q 0] [.box q 142 (srcC b s)] (fun x : TSrc × List Str × Value => TextsOk b s x.1 x.2.1) (fun x => [.box q 142 (srcC b x.1), .arr x.2.2 9 1 (x.2.1.map fun t => [AV.str t])]) (fun x => AV.is x.2.2) := by
  refine gspec_of_awp Try.func129 rfl Try.ntmps129 rfl ?_
  refine awp_seq ?_
  refine awp_region ?_
  refine sq_plain rfl rfl rfl (w_assign rfl ev_cnils) ?_
  refine sq_nil ?_
  refine awp_seq ?_
  refine awp_region ?_
  refine sq_plain rfl rfl rfl (w_move rfl (ev_tmp rfl)) ?_
  refine sq_callG [0] rfl rfl rfl rfl Try.call127 rfl (l1Num_own q b s hs hb) (evl_cons (ev_tmp rfl) evl_nil) rfl ?_
  intro x6 ok6
  obtain ⟨N, hN⟩ : ∃ N, x6.2 = N := ⟨_, rfl⟩
  rw [hN]
  refine sq_plain rfl rfl rfl (w_assign rfl (ev_tmp rfl)) ?_
  refine sq_nil ?_
  refine awp_seq ?_
  refine awp_seq ?_
  refine awp_region ?_
  refine sq_plain rfl rfl rfl (w_move rfl (ev_tmp rfl)) ?_
  refine sq_plain rfl rfl rfl (w_gtr rfl (ev_tmp rfl) ev_ci) ?_
  refine sq_nil ?_
  refine awp_cond (ev_tmp rfl) ?_ ?_
  · intro h8
    have k8 := of_decide_eq_true h8; try simp only [List.length_map] at k8
    have hrun := runOk_big ok6 (by omega) N
    obtain ⟨t0, ht0⟩ : ∃ t0, (⟨x6.1.at', true⟩ : TSrc) = t0 := ⟨_, rfl⟩
    rw [ht0] at hrun
    have hsmall : (t0.bad = false → ([] : List Str).length + N ≤ 40) := fun h => by (rw [← ht0] at h; cases h)
    refine awp_region ?_
    refine sq_plain rfl rfl rfl (w_move rfl (ev_tmp rfl)) ?_
    refine sq_plain rfl rfl rfl (w_nilB rfl (ev_tmp rfl)) ?_
    refine sq_plain rfl rfl rfl (w_fldBn 2 rfl Try.underlying142 rfl Try.sizeOf4 (ev_tmp rfl) rfl) ?_
    refine sq_storeB1 0 rfl rfl rfl (ev_tmp rfl) ev_cb (as_bool _) rfl Try.sizeOf4 rfl ?_
    refine sq_nil ?_
    refine awp_seq ?_
    refine awp_region ?_
    refine sq_nilarr 9 1 rfl rfl rfl rfl ev_cnils ?_
    intro v4
    refine sq_nil ?_
    refine awp_seq ?_
    refine awp_block ?_
    refine AWP.le (le_pick [1, 0] rfl) ?_
    refine awp_loop_i4 [(0, _), (2, _)] _ (fun (t : TSrc) (m : Nat) (l : List Str) (v : Value) => RunOk b s t l m ∧ (t.bad = false → l.length + m ≤ 40) ∧ l.length ≤ 41) (fun (t : TSrc) (m : Nat) (l : List Str) (v : Value) => [.box q 142 (srcC b t), .arr v 9 1 (l.map fun t => [AV.str t])]) (fun (t : TSrc) (m : Nat) (l : List Str) (v : Value) => [(3, AV.int m), (4, AV.is v)]) (fun (t : TSrc) (m : Nat) (l : List Str) (v : Value) => m) (t0) (N) ([]) (v4) ?_ (le_eq (by rw [← ht0]; rfl) ⟨rfl, rfl, rfl, rfl, trivial⟩) ?_
    · exact ⟨hrun, hsmall, by simp⟩
    intro t m l v hinv
    refine awp_seq ?_
    refine awp_seq ?_
    refine awp_region ?_
    refine sq_plain rfl rfl rfl (w_move rfl (ev_tmp rfl)) ?_
    refine sq_plain rfl rfl rfl (w_gtr rfl (ev_tmp rfl) ev_ci) ?_
    refine sq_plain rfl rfl rfl (w_move rfl (ev_tmp rfl)) ?_
    refine sq_grd rfl rfl (guard_t rfl rfl rfl) (fun hc => w_move rfl (ev_tmp rfl)) ?_
    refine sq_grd rfl rfl (guard_t rfl rfl rfl) (fun hc => w_nilB rfl (ev_whn rfl hc)) ?_
    refine sq_grd rfl rfl (guard_t rfl rfl rfl) (fun hc => w_fldBn 2 rfl Try.underlying142 rfl Try.sizeOf4 (ev_whn rfl hc) rfl) ?_
    refine sq_grd rfl rfl (guard_t rfl rfl rfl) (fun hc => w_loadB1 0 rfl (ev_whn rfl hc) rfl Try.isAgg4 rfl) ?_
    refine sq_grd rfl rfl (guard_t rfl rfl rfl) (fun hc => w_not rfl (ev_whn rfl hc)) ?_
    refine sq_plain rfl rfl rfl (w_and rfl (ev_tmp rfl) (evif_w rfl)) ?_
    refine sq_nil ?_
    refine awp_cond (ev_tmp rfl) ?_ ?_
    · intro h20
      simp only [Bool.and_eq_true, decide_eq_true_eq, Bool.not_eq_true'] at h20
      obtain ⟨hi, hnb⟩ := h20
      have hN4 := hinv.2.1 hnb
      have htb := hinv.1.1.2
      have hm1 : ((m : Nat) : Int) - 1 = ((m - 1 : Nat) : Int) := by omega
      refine awp_skip ?_
      refine awp_seq ?_
      refine awp_block ?_
      refine awp_region ?_
      refine sq_plain rfl rfl rfl (w_move rfl (ev_tmp rfl)) ?_
      refine sq_plain rfl rfl rfl (w_move rfl (ev_tmp rfl)) ?_
      refine sq_callG [0] rfl rfl rfl rfl Try.call128 rfl (l1Text_own q b t htb hb) (evl_cons (ev_tmp rfl) evl_nil) rfl ?_
      intro x25 ok25
      refine sq_plain rfl rfl rfl (w_bslice rfl Try.underlying29 Try.sizeOf9 Try.zeroValue9 rfl rfl rfl rfl (bp_cons (ev_tmp rfl) (as_str _) bp_nil) rfl rfl) ?_
      refine sq_append (by' := 16) 1 rfl rfl rfl rfl Try.underlying29 Try.type9 rfl rfl rfl rfl rfl rfl (ev_tmp rfl) (ev_tmp rfl) rfl (by first | omega | ((try simp only [List.length_map, List.length_take, List.length_cons, List.length_nil, chunks_len, szR] at *); omega) | (have hc2 := hc; simp only [Bool.and_eq_true, Bool.or_eq_true, Bool.or_eq_false_iff, Bool.and_eq_false_iff, Bool.not_eq_true', Bool.not_eq_false', decide_eq_true_eq, decide_eq_false_iff_not, beq_iff_eq, bne_iff_ne, List.length_map, List.length_take] at hc2; omega)) ?_
      intro v27_1
      refine sq_plain rfl rfl rfl (w_assign rfl (ev_tmp rfl)) ?_
      refine sq_nil ?_
      refine awp_region ?_
      refine sq_plain rfl rfl rfl (w_move rfl (ev_tmp rfl)) ?_
      refine sq_plain rfl rfl rfl (w_subi rfl (ev_tmp rfl) ev_ci (by first | omega | ((try simp only [List.length_map, List.length_take, List.length_cons, List.length_nil, chunks_len, szR] at *); omega) | (have hc2 := hc; simp only [Bool.and_eq_true, Bool.or_eq_true, Bool.or_eq_false_iff, Bool.and_eq_false_iff, Bool.not_eq_true', Bool.not_eq_false', decide_eq_true_eq, decide_eq_false_iff_not, beq_iff_eq, bne_iff_ne, List.length_map, List.length_take] at hc2; omega))) ?_
      refine sq_plain rfl rfl rfl (w_assign rfl (ev_tmp rfl)) ?_
      refine sq_nil ?_
      refine round_end4 t m l v (x25.1) (m - 1) (l ++ [x25.2]) (v27_1) ?_ ?_ (le_eq (by first | rfl | (rw [List.map_append]; rfl)) ⟨congrArg (fun z => some (AV.int z)) hm1, rfl, rfl, rfl, trivial⟩)
      · exact ⟨runOk_step (m := m - 1) (by rw [show m - 1 + 1 = m by omega]; exact hinv.1) hnb ok25, fun _ => (by simp only [List.length_append, List.length_cons, List.length_nil]; omega), by simp only [List.length_append, List.length_cons, List.length_nil]; omega⟩
      · omega
    · intro h20
      have hok : TextsOk b s t l := by (cases htb : t.bad with | true => exact runOk_bad hinv.1 htb | false => (rw [htb] at h20; simp at h20; have h9 := hinv.1; rw [show m = 0 by omega] at h9; exact runOk_end h9))
      refine awp_exit ?_
      refine awp_seq ?_
      refine awp_region ?_
      refine sq_plain rfl rfl rfl (w_move rfl (ev_tmp rfl)) ?_
      refine sq_plain rfl rfl rfl (w_assign rfl (ev_tmp rfl)) ?_
      refine sq_nil ?_
      refine awp_ret ?_
      (refine retG [0, 0] ((t, l, v)) ?_ rfl (by first | (dsimp only; rfl) | rfl) (resR rfl (rv_tmp' rfl (by rfl))); exact hok)
  · intro h8
    have k8 := of_decide_eq_false h8; try simp only [List.length_map] at k8
    have hrun := runOk_start ok6 (by omega)
    rw [hN] at hrun
    obtain ⟨t0, ht0⟩ : ∃ t0, x6.1 = t0 := ⟨_, rfl⟩
    rw [ht0] at hrun
    have hsmall : (t0.bad = false → ([] : List Str).length + N ≤ 40) := fun _ => by (simp; omega)
    refine awp_skip ?_
    refine awp_seq ?_
    refine awp_region ?_
    refine sq_nilarr 9 1 rfl rfl rfl rfl ev_cnils ?_
    intro v4
    refine sq_nil ?_
    refine awp_seq ?_
    refine awp_block ?_
    refine AWP.le (le_pick [1, 0] rfl) ?_
    refine awp_loop_i4 [(0, _), (2, _)] _ (fun (t : TSrc) (m : Nat) (l : List Str) (v : Value) => RunOk b s t l m ∧ (t.bad = false → l.length + m ≤ 40) ∧ l.length ≤ 41) (fun (t : TSrc) (m : Nat) (l : List Str) (v : Value) => [.box q 142 (srcC b t), .arr v 9 1 (l.map fun t => [AV.str t])]) (fun (t : TSrc) (m : Nat) (l : List Str) (v : Value) => [(3, AV.int m), (4, AV.is v)]) (fun (t : TSrc) (m : Nat) (l : List Str) (v : Value) => m) (t0) (N) ([]) (v4) ?_ (le_eq (by rw [← ht0]; rfl) ⟨rfl, rfl, rfl, rfl, trivial⟩) ?_
    · exact ⟨hrun, hsmall, by simp⟩
    intro t m l v hinv
    refine awp_seq ?_
    refine awp_seq ?_
    refine awp_region ?_
    refine sq_plain rfl rfl rfl (w_move rfl (ev_tmp rfl)) ?_
    refine sq_plain rfl rfl rfl (w_gtr rfl (ev_tmp rfl) ev_ci) ?_
    refine sq_plain rfl rfl rfl (w_move rfl (ev_tmp rfl)) ?_
    refine sq_grd rfl rfl (guard_t rfl rfl rfl) (fun hc => w_move rfl (ev_tmp rfl)) ?_
    refine sq_grd rfl rfl (guard_t rfl rfl rfl) (fun hc => w_nilB rfl (ev_whn rfl hc)) ?_
    refine sq_grd rfl rfl (guard_t rfl rfl rfl) (fun hc => w_fldBn 2 rfl Try.underlying142 rfl Try.sizeOf4 (ev_whn rfl hc) rfl) ?_
    refine sq_grd rfl rfl (guard_t rfl rfl rfl) (fun hc => w_loadB1 0 rfl (ev_whn rfl hc) rfl Try.isAgg4 rfl) ?_
    refine sq_grd rfl rfl (guard_t rfl rfl rfl) (fun hc => w_not rfl (ev_whn rfl hc)) ?_
    refine sq_plain rfl rfl rfl (w_and rfl (ev_tmp rfl) (evif_w rfl)) ?_
    refine sq_nil ?_
    refine awp_cond (ev_tmp rfl) ?_ ?_
    · intro h20
      simp only [Bool.and_eq_true, decide_eq_true_eq, Bool.not_eq_true'] at h20
      obtain ⟨hi, hnb⟩ := h20
      have hN4 := hinv.2.1 hnb
      have htb := hinv.1.1.2
      have hm1 : ((m : Nat) : Int) - 1 = ((m - 1 : Nat) : Int) := by omega
      refine awp_skip ?_
      refine awp_seq ?_
      refine awp_block ?_
      refine awp_region ?_
      refine sq_plain rfl rfl rfl (w_move rfl (ev_tmp rfl)) ?_
      refine sq_plain rfl rfl rfl (w_move rfl (ev_tmp rfl)) ?_
      refine sq_callG [0] rfl rfl rfl rfl Try.call128 rfl (l1Text_own q b t htb hb) (evl_cons (ev_tmp rfl) evl_nil) rfl ?_
      intro x25 ok25
      refine sq_plain rfl rfl rfl (w_bslice rfl Try.underlying29 Try.sizeOf9 Try.zeroValue9 rfl rfl rfl rfl (bp_cons (ev_tmp rfl) (as_str _) bp_nil) rfl rfl) ?_
      refine sq_append (by' := 16) 1 rfl rfl rfl rfl Try.underlying29 Try.type9 rfl rfl rfl rfl rfl rfl (ev_tmp rfl) (ev_tmp rfl) rfl (by first | omega | ((try simp only [List.length_map, List.length_take, List.length_cons, List.length_nil, chunks_len, szR] at *); omega) | (have hc2 := hc; simp only [Bool.and_eq_true, Bool.or_eq_true, Bool.or_eq_false_iff, Bool.and_eq_false_iff, Bool.not_eq_true', Bool.not_eq_false', decide_eq_true_eq, decide_eq_false_iff_not, beq_iff_eq, bne_iff_ne, List.length_map, List.length_take] at hc2; omega)) ?_
      intro v27_2
      refine sq_plain rfl rfl rfl (w_assign rfl (ev_tmp rfl)) ?_
      refine sq_nil ?_
      refine awp_region ?_
      refine sq_plain rfl rfl rfl (w_move rfl (ev_tmp rfl)) ?_
      refine sq_plain rfl rfl rfl (w_subi rfl (ev_tmp rfl) ev_ci (by first | omega | ((try simp only [List.length_map, List.length_take, List.length_cons, List.length_nil, chunks_len, szR] at *); omega) | (have hc2 := hc; simp only [Bool.and_eq_true, Bool.or_eq_true, Bool.or_eq_false_iff, Bool.and_eq_false_iff, Bool.not_eq_true', Bool.not_eq_false', decide_eq_true_eq, decide_eq_false_iff_not, beq_iff_eq, bne_iff_ne, List.length_map, List.length_take] at hc2; omega))) ?_
      refine sq_plain rfl rfl rfl (w_assign rfl (ev_tmp rfl)) ?_
      refine sq_nil ?_
      refine round_end4 t m l v (x25.1) (m - 1) (l ++ [x25.2]) (v27_2) ?_ ?_ (le_eq (by first | rfl | (rw [List.map_append]; rfl)) ⟨congrArg (fun z => some (AV.int z)) hm1, rfl, rfl, rfl, trivial⟩)
      · exact ⟨runOk_step (m := m - 1) (by rw [show m - 1 + 1 = m by omega]; exact hinv.1) hnb ok25, fun _ => (by simp only [List.length_append, List.length_cons, List.length_nil]; omega), by simp only [List.length_append, List.length_cons, List.length_nil]; omega⟩
      · omega
    · intro h20
      have hok : TextsOk b s t l := by (cases htb : t.bad with | true => exact runOk_bad hinv.1 htb | false => (rw [htb] at h20; simp at h20; have h9 := hinv.1; rw [show m = 0 by omega] at h9; exact runOk_end h9))
      refine awp_exit ?_
      refine awp_seq ?_
      refine awp_region ?_
      refine sq_plain rfl rfl rfl (w_move rfl (ev_tmp rfl)) ?_
      refine sq_plain rfl rfl rfl (w_assign rfl (ev_tmp rfl)) ?_
      refine sq_nil ?_
      refine awp_ret ?_
      (refine retG [0, 0] ((t, l, v)) ?_ rfl (by first | (dsimp only; rfl) | rfl) (resR rfl (rv_tmp' rfl (by rfl))); exact hok)
theorem readNum_spec (b : Str) (at' : Int) (hb : b.length ≤ 1048576) : FSpec Try.prog 22 [AV.str b, AV.int at'] (AV.tup [AV.int (readNumR b at').1, AV.int (readNumR b at').2.1, AV.bool (readNumR b at').2.2]) := by
  refine spec_of_awp Try.func22 rfl Try.ntmps22 rfl ?_
  refine awp_seq ?_
  refine awp_region ?_
  refine sq_plain rfl rfl rfl (w_assign rfl ev_ci) ?_
  refine sq_plain rfl rfl rfl (w_assign rfl ev_ci) ?_
  refine sq_plain rfl rfl rfl (w_assign rfl ev_cb) ?_
  refine sq_nil ?_
  refine awp_seq ?_
  refine awp_region ?_
  refine sq_plain rfl rfl rfl (w_move rfl (ev_tmp rfl)) ?_
  refine sq_plain rfl rfl rfl (w_move rfl (ev_tmp rfl)) ?_
  refine sq_callG [] rfl rfl rfl rfl Try.call121 rfl (sourceAt_own _ _ _) (evl_cons (ev_tmp rfl) (evl_cons (ev_tmp rfl) (evl_cons ev_ci evl_nil))) rfl ?_
  intro x13 ok13
  refine sq_plain rfl rfl rfl (w_move rfl (ev_tmp rfl)) ?_
  refine sq_plain rfl rfl rfl (w_extract rfl (ev_tmp rfl) rfl) ?_
  refine sq_plain rfl rfl rfl (w_extract rfl (ev_tmp rfl) rfl) ?_
  refine sq_plain rfl rfl rfl (w_assign rfl (ev_tmp rfl)) ?_
  refine sq_plain rfl rfl rfl (w_assign rfl (ev_tmp rfl)) ?_
  refine sq_nil ?_
  refine awp_seq ?_
  refine awp_seq ?_
  refine awp_region ?_
  refine sq_plain rfl rfl rfl (w_move rfl (ev_tmp rfl)) ?_
  refine sq_plain rfl rfl rfl (w_not rfl (ev_tmp rfl)) ?_
  refine sq_nil ?_
  refine awp_cond (ev_tmp rfl) ?_ ?_
  · intro h17
    have he : readNumR b at' = (0, 0, false) := by (unfold readNumR; exact if_pos (show (!placeB b at') = true from h17))
    rw [he]
    refine awp_seq ?_
    refine awp_region ?_
    refine sq_plain rfl rfl rfl (w_assign rfl ev_ci) ?_
    refine sq_plain rfl rfl rfl (w_assign rfl ev_ci) ?_
    refine sq_plain rfl rfl rfl (w_assign rfl ev_cb) ?_
    refine sq_nil ?_
    refine awp_ret ?_
    exact retN rfl (by decide) (rv_cons (rv_tmp' rfl (by rfl)) (rv_cons (rv_tmp' rfl (by rfl)) (rv_cons (rv_tmp' rfl (by rfl)) rv_nil)))
  · intro h17
    have hp : placeB b at' = true := by (have h9 : (!placeB b at') = false := h17; simpa using h9)
    obtain ⟨hl, h0, h1⟩ := placeB_nat hp
    obtain ⟨k, rfl⟩ : ∃ k : Nat, at' = (k : Int) := ⟨at'.toNat, by omega⟩
    have hef := readNumR_of hp
    refine awp_skip ?_
    refine awp_seq ?_
    refine awp_region ?_
    refine sq_plain rfl rfl rfl (w_move rfl (ev_tmp rfl)) ?_
    refine sq_callG [0] rfl rfl rfl rfl Try.call122 rfl (srcNum_own x13 b ⟨k, false⟩ (by show k ≤ b.length; omega) hb) (evl_cons (ev_tmp rfl) evl_nil) rfl ?_
    intro x19 ok19
    refine sq_plain rfl rfl rfl (w_assign rfl (ev_tmp rfl)) ?_
    refine sq_nil ?_
    refine awp_seq ?_
    refine awp_seq ?_
    refine awp_region ?_
    refine sq_plain rfl rfl rfl (w_move rfl (ev_tmp rfl)) ?_
    refine sq_plain rfl rfl rfl (w_nilB rfl (ev_tmp rfl)) ?_
    refine sq_plain rfl rfl rfl (w_fldBn 2 rfl Try.underlying137 rfl Try.sizeOf4 (ev_tmp rfl) rfl) ?_
    refine sq_plain rfl rfl rfl (w_loadB1 0 rfl (ev_tmp rfl) rfl Try.isAgg4 rfl) ?_
    refine sq_nil ?_
    refine awp_cond (ev_tmp rfl) ?_ ?_
    · intro h23
      have he : readNumR b k = (0, 0, false) := by (have h9 := numOk_bad ok19 h23; rw [numA_new] at h9; rw [hef, h9])
      rw [he]
      refine awp_seq ?_
      refine awp_region ?_
      refine sq_plain rfl rfl rfl (w_assign rfl ev_ci) ?_
      refine sq_plain rfl rfl rfl (w_assign rfl ev_ci) ?_
      refine sq_plain rfl rfl rfl (w_assign rfl ev_cb) ?_
      refine sq_nil ?_
      refine awp_ret ?_
      exact retN rfl (by decide) (rv_cons (rv_tmp' rfl (by rfl)) (rv_cons (rv_tmp' rfl (by rfl)) (rv_cons (rv_tmp' rfl (by rfl)) rv_nil)))
    · intro h23
      obtain ⟨n, j, hn, hx⟩ := numOk_good ok19 h23
      rw [numA_new] at hn
      have he : readNumR b k = ((n : Int), (k : Int) + j, true) := by rw [hef, hn]
      rw [he, hx]
      refine awp_skip ?_
      refine awp_seq ?_
      refine awp_region_any (by kernel_rfl) (by kernel_rfl) rfl ?_
      refine ch_plain rfl rfl (w_move rfl (ev_tmp rfl)) ?_
      refine ch_plain rfl rfl (w_move rfl (ev_tmp rfl)) ?_
      refine ch_plain rfl rfl (w_nilB rfl (ev_tmp rfl)) ?_
      refine ch_plain rfl rfl (w_fldBn 1 rfl Try.underlying137 rfl Try.sizeOf3 (ev_tmp rfl) rfl) ?_
      refine ch_plain rfl rfl (w_loadB1 0 rfl (ev_tmp rfl) rfl Try.isAgg3 rfl) ?_
      refine ch_plain rfl rfl (w_assign rfl (ev_tmp rfl)) ?_
      refine ch_plain rfl rfl (w_assign rfl (ev_tmp rfl)) ?_
      refine ch_plain rfl rfl (w_assign rfl ev_cb) ?_
      refine ch_nil ?_
      refine awp_ret ?_
      exact retN rfl (by decide) (rv_cons (rv_tmp' rfl (by rfl)) (rv_cons (rv_tmp' rfl (by rfl)) (rv_cons (rv_tmp' rfl (by rfl)) rv_nil)))
theorem readNumS_spec (b : Str) (at' : Int) (hb : b.length ≤ 1048576) : FSpec Try.prog 27 [AV.str b, AV.int at'] (AV.tup [AV.int (readNumR b at').1, AV.int (readNumR b at').2.1, AV.bool (readNumR b at').2.2]) := by
  refine spec_of_awp Try.func27 rfl Try.ntmps27 rfl ?_
  refine awp_seq ?_
  refine awp_region ?_
  refine sq_plain rfl rfl rfl (w_assign rfl ev_ci) ?_
  refine sq_plain rfl rfl rfl (w_assign rfl ev_ci) ?_
  refine sq_plain rfl rfl rfl (w_assign rfl ev_cb) ?_
  refine sq_nil ?_
  refine awp_seq ?_
  refine awp_seq ?_
  refine awp_region ?_
  refine sq_plain rfl rfl rfl (w_move rfl (ev_tmp rfl)) ?_
  refine sq_plain rfl rfl rfl (w_move rfl (ev_tmp rfl)) ?_
  refine sq_plain rfl rfl rfl (w_call rfl Try.call126 rfl (l1Place_spec _ _) (evl_cons (ev_tmp rfl) (evl_cons (ev_tmp rfl) evl_nil))) ?_
  refine sq_plain rfl rfl rfl (w_not rfl (ev_tmp rfl)) ?_
  refine sq_nil ?_
  refine awp_cond (ev_tmp rfl) ?_ ?_
  · intro h12
    have he : readNumR b at' = (0, 0, false) := by (unfold readNumR; exact if_pos (show (!placeB b at') = true from h12))
    rw [he]
    refine awp_seq ?_
    refine awp_region ?_
    refine sq_plain rfl rfl rfl (w_assign rfl ev_ci) ?_
    refine sq_plain rfl rfl rfl (w_assign rfl ev_ci) ?_
    refine sq_plain rfl rfl rfl (w_assign rfl ev_cb) ?_
    refine sq_nil ?_
    refine awp_ret ?_
    exact retN rfl (by decide) (rv_cons (rv_tmp' rfl (by rfl)) (rv_cons (rv_tmp' rfl (by rfl)) (rv_cons (rv_tmp' rfl (by rfl)) rv_nil)))
  · intro h12
    have hp : placeB b at' = true := by (have h9 : (!placeB b at') = false := h12; simpa using h9)
    obtain ⟨hl, h0, h1⟩ := placeB_nat hp
    obtain ⟨k, rfl⟩ : ∃ k : Nat, at' = (k : Int) := ⟨at'.toNat, by omega⟩
    have hef := readNumR_of hp
    refine awp_skip ?_
    refine awp_seq ?_
    refine awp_region ?_
    refine sq_plain rfl rfl rfl (w_move rfl (ev_tmp rfl)) ?_
    refine sq_plain rfl rfl rfl (w_move rfl (ev_tmp rfl)) ?_
    refine sq_plain rfl rfl rfl (w_build (places := #[(0, 1), (1, 1), (2, 1)]) rfl Try.underlying142 Try.zeroValue142 (fun w => by kernel_rfl) rfl (bp_cons (ev_tmp rfl) (as_str _) (bp_cons (ev_tmp rfl) (as_ik _ _) bp_nil)) rfl) ?_
    refine sq_box rfl rfl rfl rfl (ev_tmp rfl) ?_
    intro b16
    refine sq_plain rfl rfl rfl (w_assign rfl (ev_tmp rfl)) ?_
    refine sq_nil ?_
    refine awp_seq ?_
    refine awp_region ?_
    refine sq_plain rfl rfl rfl (w_move rfl (ev_tmp rfl)) ?_
    refine sq_callG [0] rfl rfl rfl rfl Try.call127 rfl (l1Num_own b16 b ⟨k, false⟩ (by show k ≤ b.length; omega) hb) (evl_cons (ev_tmp rfl) evl_nil) rfl ?_
    intro x18 ok18
    refine sq_plain rfl rfl rfl (w_assign rfl (ev_tmp rfl)) ?_
    refine sq_nil ?_
    refine awp_seq ?_
    refine awp_seq ?_
    refine awp_region ?_
    refine sq_plain rfl rfl rfl (w_move rfl (ev_tmp rfl)) ?_
    refine sq_plain rfl rfl rfl (w_nilB rfl (ev_tmp rfl)) ?_
    refine sq_plain rfl rfl rfl (w_fldBn 2 rfl Try.underlying142 rfl Try.sizeOf4 (ev_tmp rfl) rfl) ?_
    refine sq_plain rfl rfl rfl (w_loadB1 0 rfl (ev_tmp rfl) rfl Try.isAgg4 rfl) ?_
    refine sq_nil ?_
    refine awp_cond (ev_tmp rfl) ?_ ?_
    · intro h22
      have he : readNumR b k = (0, 0, false) := by (have h9 := numOk_bad ok18 h22; rw [numA_new] at h9; rw [hef, h9])
      rw [he]
      refine awp_seq ?_
      refine awp_region ?_
      refine sq_plain rfl rfl rfl (w_assign rfl ev_ci) ?_
      refine sq_plain rfl rfl rfl (w_assign rfl ev_ci) ?_
      refine sq_plain rfl rfl rfl (w_assign rfl ev_cb) ?_
      refine sq_nil ?_
      refine awp_ret ?_
      exact retN rfl (by decide) (rv_cons (rv_tmp' rfl (by rfl)) (rv_cons (rv_tmp' rfl (by rfl)) (rv_cons (rv_tmp' rfl (by rfl)) rv_nil)))
    · intro h22
      obtain ⟨n, j, hn, hx⟩ := numOk_good ok18 h22
      rw [numA_new] at hn
      have he : readNumR b k = ((n : Int), (k : Int) + j, true) := by rw [hef, hn]
      rw [he, hx]
      refine awp_skip ?_
      refine awp_seq ?_
      refine awp_region_any (by kernel_rfl) (by kernel_rfl) rfl ?_
      refine ch_plain rfl rfl (w_move rfl (ev_tmp rfl)) ?_
      refine ch_plain rfl rfl (w_move rfl (ev_tmp rfl)) ?_
      refine ch_plain rfl rfl (w_nilB rfl (ev_tmp rfl)) ?_
      refine ch_plain rfl rfl (w_fldBn 1 rfl Try.underlying142 rfl Try.sizeOf3 (ev_tmp rfl) rfl) ?_
      refine ch_plain rfl rfl (w_loadB1 0 rfl (ev_tmp rfl) rfl Try.isAgg3 rfl) ?_
      refine ch_plain rfl rfl (w_assign rfl (ev_tmp rfl)) ?_
      refine ch_plain rfl rfl (w_assign rfl (ev_tmp rfl)) ?_
      refine ch_plain rfl rfl (w_assign rfl ev_cb) ?_
      refine ch_nil ?_
      refine awp_ret ?_
      exact retN rfl (by decide) (rv_cons (rv_tmp' rfl (by rfl)) (rv_cons (rv_tmp' rfl (by rfl)) (rv_cons (rv_tmp' rfl (by rfl)) rv_nil)))
theorem readText_spec (b : Str) (at' : Int) (hb : b.length ≤ 1048576) : FSpec Try.prog 23 [AV.str b, AV.int at'] (AV.tup [AV.str (readTextR b at').1, AV.int (readTextR b at').2.1, AV.bool (readTextR b at').2.2]) := by
  refine spec_of_awp Try.func23 rfl Try.ntmps23 rfl ?_
  refine awp_seq ?_
  refine awp_region ?_
  refine sq_plain rfl rfl rfl (w_assign rfl (ev_cs' (l := []) rfl)) ?_
  refine sq_plain rfl rfl rfl (w_assign rfl ev_ci) ?_
  refine sq_plain rfl rfl rfl (w_assign rfl ev_cb) ?_
  refine sq_nil ?_
  refine awp_seq ?_
  refine awp_region ?_
  refine sq_plain rfl rfl rfl (w_move rfl (ev_tmp rfl)) ?_
  refine sq_plain rfl rfl rfl (w_move rfl (ev_tmp rfl)) ?_
  refine sq_callG [] rfl rfl rfl rfl Try.call121 rfl (sourceAt_own _ _ _) (evl_cons (ev_tmp rfl) (evl_cons (ev_tmp rfl) (evl_cons ev_ci evl_nil))) rfl ?_
  intro x13 ok13
  refine sq_plain rfl rfl rfl (w_move rfl (ev_tmp rfl)) ?_
  refine sq_plain rfl rfl rfl (w_extract rfl (ev_tmp rfl) rfl) ?_
  refine sq_plain rfl rfl rfl (w_extract rfl (ev_tmp rfl) rfl) ?_
  refine sq_plain rfl rfl rfl (w_assign rfl (ev_tmp rfl)) ?_
  refine sq_plain rfl rfl rfl (w_assign rfl (ev_tmp rfl)) ?_
  refine sq_nil ?_
  refine awp_seq ?_
  refine awp_seq ?_
  refine awp_region ?_
  refine sq_plain rfl rfl rfl (w_move rfl (ev_tmp rfl)) ?_
  refine sq_plain rfl rfl rfl (w_not rfl (ev_tmp rfl)) ?_
  refine sq_nil ?_
  refine awp_cond (ev_tmp rfl) ?_ ?_
  · intro h17
    have he : readTextR b at' = ([], 0, false) := by (unfold readTextR; exact if_pos (show (!placeB b at') = true from h17))
    rw [he]
    refine awp_seq ?_
    refine awp_region ?_
    refine sq_plain rfl rfl rfl (w_assign rfl (ev_cs' (l := []) rfl)) ?_
    refine sq_plain rfl rfl rfl (w_assign rfl ev_ci) ?_
    refine sq_plain rfl rfl rfl (w_assign rfl ev_cb) ?_
    refine sq_nil ?_
    refine awp_ret ?_
    exact retN rfl (by decide) (rv_cons (rv_tmp' rfl (by rfl)) (rv_cons (rv_tmp' rfl (by rfl)) (rv_cons (rv_tmp' rfl (by rfl)) rv_nil)))
  · intro h17
    have hp : placeB b at' = true := by (have h9 : (!placeB b at') = false := h17; simpa using h9)
    obtain ⟨hl, h0, h1⟩ := placeB_nat hp
    obtain ⟨k, rfl⟩ : ∃ k : Nat, at' = (k : Int) := ⟨at'.toNat, by omega⟩
    have hef := readTextR_of hp
    refine awp_skip ?_
    refine awp_seq ?_
    refine awp_region ?_
    refine sq_plain rfl rfl rfl (w_move rfl (ev_tmp rfl)) ?_
    refine sq_callG [0] rfl rfl rfl rfl Try.call123 rfl (srcText_own x13 b ⟨k, false⟩ (by show k ≤ b.length; omega) hb) (evl_cons (ev_tmp rfl) evl_nil) rfl ?_
    intro x19 ok19
    refine sq_plain rfl rfl rfl (w_assign rfl (ev_tmp rfl)) ?_
    refine sq_nil ?_
    refine awp_seq ?_
    refine awp_seq ?_
    refine awp_region ?_
    refine sq_plain rfl rfl rfl (w_move rfl (ev_tmp rfl)) ?_
    refine sq_plain rfl rfl rfl (w_nilB rfl (ev_tmp rfl)) ?_
    refine sq_plain rfl rfl rfl (w_fldBn 2 rfl Try.underlying137 rfl Try.sizeOf4 (ev_tmp rfl) rfl) ?_
    refine sq_plain rfl rfl rfl (w_loadB1 0 rfl (ev_tmp rfl) rfl Try.isAgg4 rfl) ?_
    refine sq_nil ?_
    refine awp_cond (ev_tmp rfl) ?_ ?_
    · intro h23
      have he : readTextR b k = ([], 0, false) := by (have h9 := textOk_bad ok19 h23; rw [textA_new] at h9; rw [hef, h9])
      rw [he]
      refine awp_seq ?_
      refine awp_region ?_
      refine sq_plain rfl rfl rfl (w_assign rfl (ev_cs' (l := []) rfl)) ?_
      refine sq_plain rfl rfl rfl (w_assign rfl ev_ci) ?_
      refine sq_plain rfl rfl rfl (w_assign rfl ev_cb) ?_
      refine sq_nil ?_
      refine awp_ret ?_
      exact retN rfl (by decide) (rv_cons (rv_tmp' rfl (by rfl)) (rv_cons (rv_tmp' rfl (by rfl)) (rv_cons (rv_tmp' rfl (by rfl)) rv_nil)))
    · intro h23
      obtain ⟨n, j, hn, hx⟩ := textOk_good ok19 h23
      rw [textA_new] at hn
      have he : readTextR b k = (n, (k : Int) + j, true) := by rw [hef, hn]
      rw [he, hx]
      refine awp_skip ?_
      refine awp_seq ?_
      refine awp_region_any (by kernel_rfl) (by kernel_rfl) rfl ?_
      refine ch_plain rfl rfl (w_move rfl (ev_tmp rfl)) ?_
      refine ch_plain rfl rfl (w_move rfl (ev_tmp rfl)) ?_
      refine ch_plain rfl rfl (w_nilB rfl (ev_tmp rfl)) ?_
      refine ch_plain rfl rfl (w_fldBn 1 rfl Try.underlying137 rfl Try.sizeOf3 (ev_tmp rfl) rfl) ?_
      refine ch_plain rfl rfl (w_loadB1 0 rfl (ev_tmp rfl) rfl Try.isAgg3 rfl) ?_
      refine ch_plain rfl rfl (w_assign rfl (ev_tmp rfl)) ?_
      refine ch_plain rfl rfl (w_assign rfl (ev_tmp rfl)) ?_
      refine ch_plain rfl rfl (w_assign rfl ev_cb) ?_
      refine ch_nil ?_
      refine awp_ret ?_
      exact retN rfl (by decide) (rv_cons (rv_tmp' rfl (by rfl)) (rv_cons (rv_tmp' rfl (by rfl)) (rv_cons (rv_tmp' rfl (by rfl)) rv_nil)))
theorem readTextS_spec (b : Str) (at' : Int) (hb : b.length ≤ 1048576) : FSpec Try.prog 29 [AV.str b, AV.int at'] (AV.tup [AV.str (readTextR b at').1, AV.int (readTextR b at').2.1, AV.bool (readTextR b at').2.2]) := by
  refine spec_of_awp Try.func29 rfl Try.ntmps29 rfl ?_
  refine awp_seq ?_
  refine awp_region ?_
  refine sq_plain rfl rfl rfl (w_assign rfl (ev_cs' (l := []) rfl)) ?_
  refine sq_plain rfl rfl rfl (w_assign rfl ev_ci) ?_
  refine sq_plain rfl rfl rfl (w_assign rfl ev_cb) ?_
  refine sq_nil ?_
  refine awp_seq ?_
  refine awp_seq ?_
  refine awp_region ?_
  refine sq_plain rfl rfl rfl (w_move rfl (ev_tmp rfl)) ?_
  refine sq_plain rfl rfl rfl (w_move rfl (ev_tmp rfl)) ?_
  refine sq_plain rfl rfl rfl (w_call rfl Try.call126 rfl (l1Place_spec _ _) (evl_cons (ev_tmp rfl) (evl_cons (ev_tmp rfl) evl_nil))) ?_
  refine sq_plain rfl rfl rfl (w_not rfl (ev_tmp rfl)) ?_
  refine sq_nil ?_
  refine awp_cond (ev_tmp rfl) ?_ ?_
  · intro h12
    have he : readTextR b at' = ([], 0, false) := by (unfold readTextR; exact if_pos (show (!placeB b at') = true from h12))
    rw [he]
    refine awp_seq ?_
    refine awp_region ?_
    refine sq_plain rfl rfl rfl (w_assign rfl (ev_cs' (l := []) rfl)) ?_
    refine sq_plain rfl rfl rfl (w_assign rfl ev_ci) ?_
    refine sq_plain rfl rfl rfl (w_assign rfl ev_cb) ?_
    refine sq_nil ?_
    refine awp_ret ?_
    exact retN rfl (by decide) (rv_cons (rv_tmp' rfl (by rfl)) (rv_cons (rv_tmp' rfl (by rfl)) (rv_cons (rv_tmp' rfl (by rfl)) rv_nil)))
  · intro h12
    have hp : placeB b at' = true := by (have h9 : (!placeB b at') = false := h12; simpa using h9)
    obtain ⟨hl, h0, h1⟩ := placeB_nat hp
    obtain ⟨k, rfl⟩ : ∃ k : Nat, at' = (k : Int) := ⟨at'.toNat, by omega⟩
    have hef := readTextR_of hp
    refine awp_skip ?_
    refine awp_seq ?_
    refine awp_region ?_
    refine sq_plain rfl rfl rfl (w_move rfl (ev_tmp rfl)) ?_
    refine sq_plain rfl rfl rfl (w_move rfl (ev_tmp rfl)) ?_
    refine sq_plain rfl rfl rfl (w_build (places := #[(0, 1), (1, 1), (2, 1)]) rfl Try.underlying142 Try.zeroValue142 (fun w => by kernel_rfl) rfl (bp_cons (ev_tmp rfl) (as_str _) (bp_cons (ev_tmp rfl) (as_ik _ _) bp_nil)) rfl) ?_
    refine sq_box rfl rfl rfl rfl (ev_tmp rfl) ?_
    intro b16
    refine sq_plain rfl rfl rfl (w_assign rfl (ev_tmp rfl)) ?_
    refine sq_nil ?_
    refine awp_seq ?_
    refine awp_region ?_
    refine sq_plain rfl rfl rfl (w_move rfl (ev_tmp rfl)) ?_
    refine sq_callG [0] rfl rfl rfl rfl Try.call128 rfl (l1Text_own b16 b ⟨k, false⟩ (by show k ≤ b.length; omega) hb) (evl_cons (ev_tmp rfl) evl_nil) rfl ?_
    intro x18 ok18
    refine sq_plain rfl rfl rfl (w_assign rfl (ev_tmp rfl)) ?_
    refine sq_nil ?_
    refine awp_seq ?_
    refine awp_seq ?_
    refine awp_region ?_
    refine sq_plain rfl rfl rfl (w_move rfl (ev_tmp rfl)) ?_
    refine sq_plain rfl rfl rfl (w_nilB rfl (ev_tmp rfl)) ?_
    refine sq_plain rfl rfl rfl (w_fldBn 2 rfl Try.underlying142 rfl Try.sizeOf4 (ev_tmp rfl) rfl) ?_
    refine sq_plain rfl rfl rfl (w_loadB1 0 rfl (ev_tmp rfl) rfl Try.isAgg4 rfl) ?_
    refine sq_nil ?_
    refine awp_cond (ev_tmp rfl) ?_ ?_
    · intro h22
      have he : readTextR b k = ([], 0, false) := by (have h9 := textOk_bad ok18 h22; rw [textA_new] at h9; rw [hef, h9])
      rw [he]
      refine awp_seq ?_
      refine awp_region ?_
      refine sq_plain rfl rfl rfl (w_assign rfl (ev_cs' (l := []) rfl)) ?_
      refine sq_plain rfl rfl rfl (w_assign rfl ev_ci) ?_
      refine sq_plain rfl rfl rfl (w_assign rfl ev_cb) ?_
      refine sq_nil ?_
      refine awp_ret ?_
      exact retN rfl (by decide) (rv_cons (rv_tmp' rfl (by rfl)) (rv_cons (rv_tmp' rfl (by rfl)) (rv_cons (rv_tmp' rfl (by rfl)) rv_nil)))
    · intro h22
      obtain ⟨n, j, hn, hx⟩ := textOk_good ok18 h22
      rw [textA_new] at hn
      have he : readTextR b k = (n, (k : Int) + j, true) := by rw [hef, hn]
      rw [he, hx]
      refine awp_skip ?_
      refine awp_seq ?_
      refine awp_region_any (by kernel_rfl) (by kernel_rfl) rfl ?_
      refine ch_plain rfl rfl (w_move rfl (ev_tmp rfl)) ?_
      refine ch_plain rfl rfl (w_move rfl (ev_tmp rfl)) ?_
      refine ch_plain rfl rfl (w_nilB rfl (ev_tmp rfl)) ?_
      refine ch_plain rfl rfl (w_fldBn 1 rfl Try.underlying142 rfl Try.sizeOf3 (ev_tmp rfl) rfl) ?_
      refine ch_plain rfl rfl (w_loadB1 0 rfl (ev_tmp rfl) rfl Try.isAgg3 rfl) ?_
      refine ch_plain rfl rfl (w_assign rfl (ev_tmp rfl)) ?_
      refine ch_plain rfl rfl (w_assign rfl (ev_tmp rfl)) ?_
      refine ch_plain rfl rfl (w_assign rfl ev_cb) ?_
      refine ch_nil ?_
      refine awp_ret ?_
      exact retN rfl (by decide) (rv_cons (rv_tmp' rfl (by rfl)) (rv_cons (rv_tmp' rfl (by rfl)) (rv_cons (rv_tmp' rfl (by rfl)) rv_nil)))
theorem readTexts_spec (b : Str) (at' : Int) (hb : b.length ≤ 1048576) : FSpec Try.prog 24 [AV.str b, AV.int at'] (AV.tup [strs (readTextsR b at').1, AV.int (readTextsR b at').2.1, AV.bool (readTextsR b at').2.2]) := by
  refine spec_of_awp Try.func24 rfl Try.ntmps24 rfl ?_
  refine awp_seq ?_
  refine awp_region ?_
  refine sq_plain rfl rfl rfl (w_assign rfl (ev_cnil (sz := 1))) ?_
  refine sq_plain rfl rfl rfl (w_assign rfl ev_ci) ?_
  refine sq_plain rfl rfl rfl (w_assign rfl ev_cb) ?_
  refine sq_nil ?_
  refine awp_seq ?_
  refine awp_region ?_
  refine sq_plain rfl rfl rfl (w_move rfl (ev_tmp rfl)) ?_
  refine sq_plain rfl rfl rfl (w_move rfl (ev_tmp rfl)) ?_
  refine sq_callG [] rfl rfl rfl rfl Try.call121 rfl (sourceAt_own _ _ _) (evl_cons (ev_tmp rfl) (evl_cons (ev_tmp rfl) (evl_cons ev_ci evl_nil))) rfl ?_
  intro x13 ok13
  refine sq_plain rfl rfl rfl (w_move rfl (ev_tmp rfl)) ?_
  refine sq_plain rfl rfl rfl (w_extract rfl (ev_tmp rfl) rfl) ?_
  refine sq_plain rfl rfl rfl (w_extract rfl (ev_tmp rfl) rfl) ?_
  refine sq_plain rfl rfl rfl (w_assign rfl (ev_tmp rfl)) ?_
  refine sq_plain rfl rfl rfl (w_assign rfl (ev_tmp rfl)) ?_
  refine sq_nil ?_
  refine awp_seq ?_
  refine awp_seq ?_
  refine awp_region ?_
  refine sq_plain rfl rfl rfl (w_move rfl (ev_tmp rfl)) ?_
  refine sq_plain rfl rfl rfl (w_not rfl (ev_tmp rfl)) ?_
  refine sq_nil ?_
  refine awp_cond (ev_tmp rfl) ?_ ?_
  · intro h17
    have he : readTextsR b at' = ([], 0, false) := by (unfold readTextsR; exact if_pos (show (!placeB b at') = true from h17))
    rw [he]
    refine awp_seq ?_
    refine awp_region ?_
    refine sq_plain rfl rfl rfl (w_assign rfl (ev_cnil (sz := 1))) ?_
    refine sq_plain rfl rfl rfl (w_assign rfl ev_ci) ?_
    refine sq_plain rfl rfl rfl (w_assign rfl ev_cb) ?_
    refine sq_nil ?_
    refine awp_ret ?_
    exact retN rfl (by decide) (rv_cons (rv_tmp' rfl (by rfl)) (rv_cons (rv_tmp' rfl (by rfl)) (rv_cons (rv_tmp' rfl (by rfl)) rv_nil)))
  · intro h17
    have hp : placeB b at' = true := by (have h9 : (!placeB b at') = false := h17; simpa using h9)
    obtain ⟨hl, h0, h1⟩ := placeB_nat hp
    obtain ⟨k, rfl⟩ : ∃ k : Nat, at' = (k : Int) := ⟨at'.toNat, by omega⟩
    have hef := readTextsR_of hp
    refine awp_skip ?_
    refine awp_seq ?_
    refine awp_region ?_
    refine sq_plain rfl rfl rfl (w_move rfl (ev_tmp rfl)) ?_
    refine sq_callG [0] rfl rfl rfl rfl Try.call124 rfl (srcTexts_own x13 b ⟨k, false⟩ (by show k ≤ b.length; omega) hb) (evl_cons (ev_tmp rfl) evl_nil) rfl ?_
    intro x19 ok19
    refine sq_plain rfl rfl rfl (w_assign rfl (ev_tmp rfl)) ?_
    refine sq_nil ?_
    refine awp_seq ?_
    refine awp_seq ?_
    refine awp_region ?_
    refine sq_plain rfl rfl rfl (w_move rfl (ev_tmp rfl)) ?_
    refine sq_plain rfl rfl rfl (w_nilB rfl (ev_tmp rfl)) ?_
    refine sq_plain rfl rfl rfl (w_fldBn 2 rfl Try.underlying137 rfl Try.sizeOf4 (ev_tmp rfl) rfl) ?_
    refine sq_plain rfl rfl rfl (w_loadB1 0 rfl (ev_tmp rfl) rfl Try.isAgg4 rfl) ?_
    refine sq_nil ?_
    refine awp_cond (ev_tmp rfl) ?_ ?_
    · intro h23
      have he : readTextsR b k = ([], 0, false) := by (have h9 := textsOk_bad ok19 h23; rw [textsA_new] at h9; rw [hef, h9])
      rw [he]
      refine awp_seq ?_
      refine awp_region ?_
      refine sq_plain rfl rfl rfl (w_assign rfl (ev_cnil (sz := 1))) ?_
      refine sq_plain rfl rfl rfl (w_assign rfl ev_ci) ?_
      refine sq_plain rfl rfl rfl (w_assign rfl ev_cb) ?_
      refine sq_nil ?_
      refine awp_ret ?_
      exact retN rfl (by decide) (rv_cons (rv_tmp' rfl (by rfl)) (rv_cons (rv_tmp' rfl (by rfl)) (rv_cons (rv_tmp' rfl (by rfl)) rv_nil)))
    · intro h23
      obtain ⟨j, hn, hx⟩ := textsOk_good ok19 h23
      rw [textsA_new] at hn
      have he : readTextsR b k = (x19.2.1, (k : Int) + j, true) := by rw [hef, hn]
      rw [he, hx]
      refine awp_skip ?_
      refine awp_seq ?_
      refine awp_region_any (by kernel_rfl) (by kernel_rfl) rfl ?_
      refine ch_plain rfl rfl (w_move rfl (ev_tmp rfl)) ?_
      refine ch_plain rfl rfl (w_move rfl (ev_tmp rfl)) ?_
      refine ch_plain rfl rfl (w_nilB rfl (ev_tmp rfl)) ?_
      refine ch_plain rfl rfl (w_fldBn 1 rfl Try.underlying137 rfl Try.sizeOf3 (ev_tmp rfl) rfl) ?_
      refine ch_plain rfl rfl (w_loadB1 0 rfl (ev_tmp rfl) rfl Try.isAgg3 rfl) ?_
      refine ch_plain rfl rfl (w_assign rfl (ev_tmp rfl)) ?_
      refine ch_plain rfl rfl (w_assign rfl (ev_tmp rfl)) ?_
      refine ch_plain rfl rfl (w_assign rfl ev_cb) ?_
      refine ch_nil ?_
      refine awp_ret ?_
      refine ret_seal 1 4 rfl rfl ?_
      exact retN rfl (by decide) (rv_cons (rv_tmp' rfl (by rfl)) (rv_cons (rv_tmp' rfl (by rfl)) (rv_cons (rv_tmp' rfl (by rfl)) rv_nil)))
theorem readTextsS_spec (b : Str) (at' : Int) (hb : b.length ≤ 1048576) : FSpec Try.prog 31 [AV.str b, AV.int at'] (AV.tup [strs (readTextsR b at').1, AV.int (readTextsR b at').2.1, AV.bool (readTextsR b at').2.2]) := by
  refine spec_of_awp Try.func31 rfl Try.ntmps31 rfl ?_
  refine awp_seq ?_
  refine awp_region ?_
  refine sq_plain rfl rfl rfl (w_assign rfl (ev_cnil (sz := 1))) ?_
  refine sq_plain rfl rfl rfl (w_assign rfl ev_ci) ?_
  refine sq_plain rfl rfl rfl (w_assign rfl ev_cb) ?_
  refine sq_nil ?_
  refine awp_seq ?_
  refine awp_seq ?_
  refine awp_region ?_
  refine sq_plain rfl rfl rfl (w_move rfl (ev_tmp rfl)) ?_
  refine sq_plain rfl rfl rfl (w_move rfl (ev_tmp rfl)) ?_
  refine sq_plain rfl rfl rfl (w_call rfl Try.call126 rfl (l1Place_spec _ _) (evl_cons (ev_tmp rfl) (evl_cons (ev_tmp rfl) evl_nil))) ?_
  refine sq_plain rfl rfl rfl (w_not rfl (ev_tmp rfl)) ?_
  refine sq_nil ?_
  refine awp_cond (ev_tmp rfl) ?_ ?_
  · intro h12
    have he : readTextsR b at' = ([], 0, false) := by (unfold readTextsR; exact if_pos (show (!placeB b at') = true from h12))
    rw [he]
    refine awp_seq ?_
    refine awp_region ?_
    refine sq_plain rfl rfl rfl (w_assign rfl (ev_cnil (sz := 1))) ?_
    refine sq_plain rfl rfl rfl (w_assign rfl ev_ci) ?_
    refine sq_plain rfl rfl rfl (w_assign rfl ev_cb) ?_
    refine sq_nil ?_
    refine awp_ret ?_
    exact retN rfl (by decide) (rv_cons (rv_tmp' rfl (by rfl)) (rv_cons (rv_tmp' rfl (by rfl)) (rv_cons (rv_tmp' rfl (by rfl)) rv_nil)))
  · intro h12
    have hp : placeB b at' = true := by (have h9 : (!placeB b at') = false := h12; simpa using h9)
    obtain ⟨hl, h0, h1⟩ := placeB_nat hp
    obtain ⟨k, rfl⟩ : ∃ k : Nat, at' = (k : Int) := ⟨at'.toNat, by omega⟩
    have hef := readTextsR_of hp
    refine awp_skip ?_
    refine awp_seq ?_
    refine awp_region ?_
    refine sq_plain rfl rfl rfl (w_move rfl (ev_tmp rfl)) ?_
    refine sq_plain rfl rfl rfl (w_move rfl (ev_tmp rfl)) ?_
    refine sq_plain rfl rfl rfl (w_build (places := #[(0, 1), (1, 1), (2, 1)]) rfl Try.underlying142 Try.zeroValue142 (fun w => by kernel_rfl) rfl (bp_cons (ev_tmp rfl) (as_str _) (bp_cons (ev_tmp rfl) (as_ik _ _) bp_nil)) rfl) ?_
    refine sq_box rfl rfl rfl rfl (ev_tmp rfl) ?_
    intro b16
    refine sq_plain rfl rfl rfl (w_assign rfl (ev_tmp rfl)) ?_
    refine sq_nil ?_
    refine awp_seq ?_
    refine awp_region ?_
    refine sq_plain rfl rfl rfl (w_move rfl (ev_tmp rfl)) ?_
    refine sq_callG [0] rfl rfl rfl rfl Try.call129 rfl (l1Texts_own b16 b ⟨k, false⟩ (by show k ≤ b.length; omega) hb) (evl_cons (ev_tmp rfl) evl_nil) rfl ?_
    intro x18 ok18
    refine sq_plain rfl rfl rfl (w_assign rfl (ev_tmp rfl)) ?_
    refine sq_nil ?_
    refine awp_seq ?_
    refine awp_seq ?_
    refine awp_region ?_
    refine sq_plain rfl rfl rfl (w_move rfl (ev_tmp rfl)) ?_
    refine sq_plain rfl rfl rfl (w_nilB rfl (ev_tmp rfl)) ?_
    refine sq_plain rfl rfl rfl (w_fldBn 2 rfl Try.underlying142 rfl Try.sizeOf4 (ev_tmp rfl) rfl) ?_
    refine sq_plain rfl rfl rfl (w_loadB1 0 rfl (ev_tmp rfl) rfl Try.isAgg4 rfl) ?_
    refine sq_nil ?_
    refine awp_cond (ev_tmp rfl) ?_ ?_
    · intro h22
      have he : readTextsR b k = ([], 0, false) := by (have h9 := textsOk_bad ok18 h22; rw [textsA_new] at h9; rw [hef, h9])
      rw [he]
      refine awp_seq ?_
      refine awp_region ?_
      refine sq_plain rfl rfl rfl (w_assign rfl (ev_cnil (sz := 1))) ?_
      refine sq_plain rfl rfl rfl (w_assign rfl ev_ci) ?_
      refine sq_plain rfl rfl rfl (w_assign rfl ev_cb) ?_
      refine sq_nil ?_
      refine awp_ret ?_
      exact retN rfl (by decide) (rv_cons (rv_tmp' rfl (by rfl)) (rv_cons (rv_tmp' rfl (by rfl)) (rv_cons (rv_tmp' rfl (by rfl)) rv_nil)))
    · intro h22
      obtain ⟨j, hn, hx⟩ := textsOk_good ok18 h22
      rw [textsA_new] at hn
      have he : readTextsR b k = (x18.2.1, (k : Int) + j, true) := by rw [hef, hn]
      rw [he, hx]
      refine awp_skip ?_
      refine awp_seq ?_
      refine awp_region_any (by kernel_rfl) (by kernel_rfl) rfl ?_
      refine ch_plain rfl rfl (w_move rfl (ev_tmp rfl)) ?_
      refine ch_plain rfl rfl (w_move rfl (ev_tmp rfl)) ?_
      refine ch_plain rfl rfl (w_nilB rfl (ev_tmp rfl)) ?_
      refine ch_plain rfl rfl (w_fldBn 1 rfl Try.underlying142 rfl Try.sizeOf3 (ev_tmp rfl) rfl) ?_
      refine ch_plain rfl rfl (w_loadB1 0 rfl (ev_tmp rfl) rfl Try.isAgg3 rfl) ?_
      refine ch_plain rfl rfl (w_assign rfl (ev_tmp rfl)) ?_
      refine ch_plain rfl rfl (w_assign rfl (ev_tmp rfl)) ?_
      refine ch_plain rfl rfl (w_assign rfl ev_cb) ?_
      refine ch_nil ?_
      refine awp_ret ?_
      refine ret_seal 1 4 rfl rfl ?_
      exact retN rfl (by decide) (rv_cons (rv_tmp' rfl (by rfl)) (rv_cons (rv_tmp' rfl (by rfl)) (rv_cons (rv_tmp' rfl (by rfl)) rv_nil)))
theorem sameTexts_spec (a b : List Str) : FSpec Try.prog 25 [strs a, strs b] (AV.bool (decide (a = b))) := by
  refine spec_of_awp Try.func25 rfl Try.ntmps25 rfl ?_
  refine awp_len (t := 0) rfl fun hl => ?_
  try simp only [List.length_map] at hl
  refine awp_seq ?_
  refine awp_region ?_
  refine sq_plain rfl rfl rfl (w_assign rfl ev_cb) ?_
  refine sq_nil ?_
  refine awp_seq ?_
  refine awp_seq ?_
  refine awp_region ?_
  refine sq_plain rfl rfl rfl (w_move rfl (ev_tmp rfl)) ?_
  refine sq_plain rfl rfl rfl (w_llen rfl Try.underlying29 (ev_tmp rfl)) ?_
  refine sq_plain rfl rfl rfl (w_move rfl (ev_tmp rfl)) ?_
  refine sq_plain rfl rfl rfl (w_llen rfl Try.underlying29 (ev_tmp rfl)) ?_
  refine sq_plain rfl rfl rfl (w_neq rfl (ev_tmp rfl) (ev_tmp rfl)) ?_
  refine sq_nil ?_
  refine awp_cond (ev_tmp rfl) ?_ ?_
  · intro h10
    have k10 := ne_of_bne h10; try simp only [List.length_map] at k10
    have hab : a ≠ b := by intro hc; subst hc; exact k10 rfl
    refine awp_seq ?_
    refine awp_region ?_
    refine sq_plain rfl rfl rfl (w_assign rfl ev_cb) ?_
    refine sq_nil ?_
    refine awp_ret ?_
    exact retR rfl (rv_tmp' rfl (by exact congrArg AV.bool (by simp [hab])))
  · intro h10
    have k10 := eq_of_bne_false h10; try simp only [List.length_map] at k10
    have heq : a.length = b.length := by omega
    refine awp_skip ?_
    refine awp_seq ?_
    refine awp_seq ?_
    refine awp_region ?_
    refine sq_plain rfl rfl rfl (w_move rfl (ev_tmp rfl)) ?_
    refine sq_plain rfl rfl rfl (w_llen rfl Try.underlying29 (ev_tmp rfl)) ?_
    refine sq_plain rfl rfl rfl (w_move rfl ev_ci) ?_
    refine sq_nil ?_
    refine awp_block ?_
    refine awp_loop_i [(0, _), (1, _), (12, _)] _ (fun (i : Nat) => i ≤ a.length ∧ a.take i = b.take i) (fun (i : Nat) => []) (fun (i : Nat) => [(13, AV.int i)]) (fun (i : Nat) => a.length - i) (0) ?_ (le_env ⟨rfl, rfl, rfl, rfl, trivial⟩) ?_
    · exact ⟨Nat.zero_le _, rfl⟩
    intro i hinv
    refine awp_seq ?_
    refine awp_region ?_
    refine sq_plain rfl rfl rfl (w_lss rfl (ev_tmp rfl) (ev_tmp rfl)) ?_
    refine sq_nil ?_
    refine awp_seq ?_
    refine awp_cond (ev_tmp rfl) ?_ ?_
    · intro h14
      have k14 := of_decide_eq_true h14; try simp only [List.length_map] at k14
      have hlt : i < a.length := by omega
      obtain ⟨x, hx⟩ := get_some hlt
      obtain ⟨y, hy⟩ := get_some (show i < b.length by omega)
      refine awp_skip ?_
      refine awp_seq ?_
      refine awp_block ?_
      refine awp_seq ?_
      refine awp_region ?_
      refine sq_plain rfl rfl rfl (w_move rfl (ev_tmp rfl)) ?_
      refine sq_plain rfl rfl rfl (w_assign rfl (ev_tmp rfl)) ?_
      refine sq_nil ?_
      refine awp_seq ?_
      refine awp_region_any (by kernel_rfl) (by kernel_rfl) rfl ?_
      refine ch_plain rfl rfl (w_move rfl (ev_tmp rfl)) ?_
      refine ch_plain rfl rfl (w_move rfl (ev_tmp rfl)) ?_
      refine ch_plain rfl rfl (w_idxm rfl Try.underlying29 Try.sizeOf9 (ev_tmp rfl) (ev_tmp rfl) hx (by first | omega | ((try simp only [List.length_map, List.length_take, List.length_cons, List.length_nil, chunks_len, szR] at *); omega) | (have hc2 := hc; simp only [Bool.and_eq_true, Bool.or_eq_true, Bool.or_eq_false_iff, Bool.and_eq_false_iff, Bool.not_eq_true', Bool.not_eq_false', decide_eq_true_eq, decide_eq_false_iff_not, beq_iff_eq, bne_iff_ne, List.length_map, List.length_take] at hc2; omega))) ?_
      refine ch_plain rfl rfl (w_loadE1 rfl (ev_tmp rfl) Try.isAgg9 rfl) ?_
      refine ch_plain rfl rfl (w_move rfl (ev_tmp rfl)) ?_
      refine ch_plain rfl rfl (w_move rfl (ev_tmp rfl)) ?_
      refine ch_plain rfl rfl (w_idxm rfl Try.underlying29 Try.sizeOf9 (ev_tmp rfl) (ev_tmp rfl) hy (by first | omega | ((try simp only [List.length_map, List.length_take, List.length_cons, List.length_nil, chunks_len, szR] at *); omega) | (have hc2 := hc; simp only [Bool.and_eq_true, Bool.or_eq_true, Bool.or_eq_false_iff, Bool.and_eq_false_iff, Bool.not_eq_true', Bool.not_eq_false', decide_eq_true_eq, decide_eq_false_iff_not, beq_iff_eq, bne_iff_ne, List.length_map, List.length_take] at hc2; omega))) ?_
      refine ch_plain rfl rfl (w_loadE1 rfl (ev_tmp rfl) Try.isAgg9 rfl) ?_
      refine ch_plain rfl rfl (w_sneq rfl (ev_tmp rfl) (ev_tmp rfl)) ?_
      refine ch_nil ?_
      refine awp_cond (ev_tmp rfl) ?_ ?_
      · intro h24
        have hab : a ≠ b := by intro hc; subst hc; rw [hx] at hy; injection hy with hy; subst hy; simp at h24
        refine awp_seq ?_
        refine awp_region ?_
        refine sq_plain rfl rfl rfl (w_assign rfl ev_cb) ?_
        refine sq_nil ?_
        refine awp_ret ?_
        exact retR rfl (rv_tmp' rfl (by exact congrArg AV.bool (by simp [hab])))
      · intro h24
        refine awp_skip ?_
        refine awp_region ?_
        refine sq_plain rfl rfl rfl (w_addi rfl (ev_tmp rfl) ev_ci (by first | omega | ((try simp only [List.length_map, List.length_take, List.length_cons, List.length_nil, chunks_len, szR] at *); omega) | (have hc2 := hc; simp only [Bool.and_eq_true, Bool.or_eq_true, Bool.or_eq_false_iff, Bool.and_eq_false_iff, Bool.not_eq_true', Bool.not_eq_false', decide_eq_true_eq, decide_eq_false_iff_not, beq_iff_eq, bne_iff_ne, List.length_map, List.length_take] at hc2; omega))) ?_
        refine sq_plain rfl rfl rfl (w_move rfl (ev_tmp rfl)) ?_
        refine sq_nil ?_
        refine round_end i (i + 1) ?_ ?_ (le_env ⟨rfl, rfl, rfl, rfl, trivial⟩)
        · exact ⟨by omega, take_eq_succ hinv.2 hx (by rw [hy]; congr 1; simp_all)⟩
        · omega
    · intro h14
      have k14 := of_decide_eq_false h14; try simp only [List.length_map] at k14
      have hge : a.length ≤ i := by omega
      have hab : a = b := take_eq_of heq hinv.2 hge
      refine awp_exit ?_
      refine awp_seq ?_
      refine awp_region ?_
      refine sq_plain rfl rfl rfl (w_assign rfl ev_cb) ?_
      refine sq_nil ?_
      refine awp_ret ?_
      exact retR rfl (rv_tmp' rfl (by exact congrArg AV.bool (by simp [hab])))
theorem big_spec (code more : List Int) : FSpec Try.prog 12 [bytesI code, bytesI more] (AV.bool (bigB code more)) := by
  refine spec_of_awp Try.func12 rfl Try.ntmps12 rfl ?_
  refine awp_len (t := 0) rfl fun hl0 => ?_
  try simp only [List.length_map] at hl0
  refine awp_len (t := 1) rfl fun hl1 => ?_
  try simp only [List.length_map] at hl1
  refine awp_seq ?_
  refine awp_region ?_
  refine sq_plain rfl rfl rfl (w_assign rfl ev_cb) ?_
  refine sq_nil ?_
  refine awp_seq ?_
  refine awp_region ?_
  refine sq_plain rfl rfl rfl (w_move rfl (ev_tmp rfl)) ?_
  refine sq_plain rfl rfl rfl (w_llen rfl Try.underlying22 (ev_tmp rfl)) ?_
  refine sq_plain rfl rfl rfl (w_gtr rfl (ev_tmp rfl) ev_ci) ?_
  refine sq_plain rfl rfl rfl (w_move rfl (ev_tmp rfl)) ?_
  refine sq_grd rfl rfl (guard_f rfl rfl rfl) (fun hc => w_move rfl (ev_tmp rfl)) ?_
  refine sq_grd rfl rfl (guard_f rfl rfl rfl) (fun hc => w_llen rfl Try.underlying22 (ev_whn rfl hc)) ?_
  refine sq_grd rfl rfl (guard_f rfl rfl rfl) (fun hc => w_move rfl (ev_tmp rfl)) ?_
  refine sq_grd rfl rfl (guard_f rfl rfl rfl) (fun hc => w_llen rfl Try.underlying22 (ev_whn rfl hc)) ?_
  refine sq_grd rfl rfl (guard_f rfl rfl rfl) (fun hc => w_subi rfl ev_ci (ev_whn rfl hc) (by simp only [List.length_map]; omega)) ?_
  refine sq_grd rfl rfl (guard_f rfl rfl rfl) (fun hc => w_gtr rfl (ev_whn rfl hc) (ev_whn rfl hc)) ?_
  refine sq_plain rfl rfl rfl (w_or rfl (ev_tmp rfl) (evif_w rfl)) ?_
  refine sq_plain rfl rfl rfl (w_assign rfl (ev_tmp rfl)) ?_
  refine sq_nil ?_
  refine awp_ret ?_
  exact retR rfl (rv_tmp' rfl (by (refine congrArg AV.bool ?_; unfold bigB; simp only [List.length_map])))
end Go.Proofs.Yteliahajeokciaa
