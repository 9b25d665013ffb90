/- Walks: copies of the call's own; marks and their reading. -/
import Derived.Test.YteliahajeokciaaMarkM
import Derived.Test.YteliahajeokciaaTypesW
set_option linter.unusedVariables false
set_option linter.unusedSimpArgs false
set_option maxRecDepth 100000
namespace Go.Proofs.Yteliahajeokciaa
open Go Go.AV Go.M
attribute [local irreducible] OpW OpA OpS AWP FSpec ESpec GSpec OpE RetOk RetOkG RvDen Le Ev GuardIs
theorem markText_spec (k : Int) (h : k ≤ 4611686018427387904) : FSpec Try.prog 183 [AV.int k] (AV.str (markText k)) := by
  refine spec_of_awp Try.func183 rfl Try.ntmps183 rfl ?_
  refine awp_seq ?_
  refine awp_region ?_
  refine sq_plain rfl rfl rfl (w_assign rfl (ev_cs' (l := []) rfl)) ?_
  refine sq_nil ?_
  refine awp_seq ?_
  refine awp_seq ?_
  refine awp_region ?_
  refine sq_plain rfl rfl rfl (w_move rfl (ev_tmp rfl)) ?_
  refine sq_plain rfl rfl rfl (w_leq rfl (ev_tmp rfl) ev_ci) ?_
  refine sq_nil ?_
  refine awp_cond (ev_tmp rfl) ?_ ?_
  · intro h5
    have k5 := of_decide_eq_true h5; try simp only [List.length_map] at k5
    have he : markText k = [109, 48] := by unfold markText; rw [if_pos k5]
    rw [he]
    refine awp_seq ?_
    refine awp_region ?_
    refine sq_plain rfl rfl rfl (w_assign rfl (ev_cs' (l := [109, 48]) rfl)) ?_
    refine sq_nil ?_
    refine awp_ret ?_
    exact retR rfl (rv_tmp' rfl (by first | rfl | exact congrArg AV.str (by rw [hz]; rfl)))
  · intro h5
    have k5 := of_decide_eq_false h5; try simp only [List.length_map] at k5
    obtain ⟨m, rfl⟩ : ∃ m : Nat, k = (m : Int) := ⟨k.toNat, by omega⟩
    have he : markText (m : Int) = 109 :: digs m [] := by unfold markText; rw [if_neg k5]; rfl
    rw [he]
    refine awp_skip ?_
    refine awp_seq ?_
    refine awp_region ?_
    refine sq_plain rfl rfl rfl (w_assign rfl (ev_cs' (l := []) rfl)) ?_
    refine sq_nil ?_
    refine awp_seq ?_
    refine awp_block ?_
    refine awp_loop_i2 [(2, _)] _ (fun (j : Nat) (out : Str) => digs m [] = digs j out ∧ out.length + j ≤ m) (fun (j : Nat) (out : Str) => []) (fun (j : Nat) (out : Str) => [(0, AV.int j), (3, AV.str out)]) (fun (j : Nat) (out : Str) => j) (m) ([]) ?_ (le_env ⟨rfl, rfl, rfl, trivial⟩) ?_
    · exact ⟨rfl, by simp⟩
    intro j out hinv
    refine awp_seq ?_
    refine awp_seq ?_
    refine awp_region ?_
    refine sq_plain rfl rfl rfl (w_move rfl (ev_tmp rfl)) ?_
    refine sq_plain rfl rfl rfl (w_gtr rfl (ev_tmp rfl) ev_ci) ?_
    refine sq_nil ?_
    refine awp_cond (ev_tmp rfl) ?_ ?_
    · intro h7
      have k7 := of_decide_eq_true h7; try simp only [List.length_map] at k7
      refine awp_skip ?_
      refine awp_block ?_
      refine awp_seq ?_
      refine awp_region ?_
      refine sq_plain rfl rfl rfl (w_move rfl (ev_tmp rfl)) ?_
      refine sq_plain rfl rfl rfl (w_rem rfl (ev_tmp rfl) ev_ci (by decide)) ?_
      refine sq_plain rfl rfl rfl (w_addi rfl ev_ci (ev_tmp rfl) (by rw [tmod10]; omega)) ?_
      refine sq_plain rfl rfl rfl (w_conv rfl (by kernel_rfl) Try.underlying5 (ev_tmp rfl)) ?_
      rw [mk_byte]
      refine sq_plain rfl rfl rfl (w_bslice rfl Try.underlying22 Try.sizeOf5 Try.zeroValue5 rfl rfl rfl rfl (bp_cons (ev_tmp rfl) (as_ik _ _) bp_nil) rfl rfl) ?_
      refine sq_plain rfl rfl rfl (w_convBS (l := [UInt8.ofNat (48 + j % 10)]) rfl Try.underlying22 Try.underlying5 Try.underlying9 (ev_tmp rfl)) ?_
      refine sq_plain rfl rfl rfl (w_move rfl (ev_tmp rfl)) ?_
      refine sq_plain rfl rfl rfl (w_cat rfl (ev_tmp rfl) (ev_tmp rfl) (by first | omega | (simp only [List.length_append, List.length_take, List.length_drop, List.length_cons, List.length_nil]; omega))) ?_
      refine sq_plain rfl rfl rfl (w_assign rfl (ev_tmp rfl)) ?_
      refine sq_nil ?_
      refine awp_region ?_
      refine sq_plain rfl rfl rfl (w_move rfl (ev_tmp rfl)) ?_
      refine sq_plain rfl rfl rfl (w_quo rfl (ev_tmp rfl) ev_ci (by decide)) ?_
      rw [mk_quo (k := j) (by omega)]
      refine sq_plain rfl rfl rfl (w_assign rfl (ev_tmp rfl)) ?_
      refine sq_nil ?_
      refine blockN ?_
      refine round_end2 j out (j / 10) (UInt8.ofNat (48 + j % 10) :: out) ?_ ?_ (le_env ⟨rfl, rfl, rfl, trivial⟩)
      · exact ⟨by rw [hinv.1, digs_pos (by omega)], by simp only [List.length_cons]; omega⟩
      · omega
    · intro h7
      have k7 := of_decide_eq_false h7; try simp only [List.length_map] at k7
      have hz : digs m [] = out := by rw [hinv.1, digs_zero (by omega)]
      refine awp_exit ?_
      refine awp_seq ?_
      refine awp_region ?_
      refine sq_plain rfl rfl rfl (w_move rfl (ev_tmp rfl)) ?_
      refine sq_plain rfl rfl rfl (w_cat rfl (ev_cs' (l := [109]) rfl) (ev_tmp rfl) (by first | omega | (simp only [List.length_append, List.length_take, List.length_drop, List.length_cons, List.length_nil]; omega))) ?_
      refine sq_plain rfl rfl rfl (w_assign rfl (ev_tmp rfl)) ?_
      refine sq_nil ?_
      refine awp_ret ?_
      exact retR rfl (rv_tmp' rfl (by first | rfl | exact congrArg AV.str (by rw [hz]; rfl)))
theorem toVerS_own (l : List TVer) (hs : sizeL TVer.size l ≤ 1048576) : GSpec Try.prog 248 [AV.list 3 (l.map TVer.cs)] [] (fun _ : Value => True) (fun v => [.arr v 155 3 (l.map TVer.cs)]) (fun v => AV.is v) := by
  have hsl : l.length ≤ 1048576 := Nat.le_trans sizeL_len hs
  refine gspec_of_awp Try.func248 rfl Try.ntmps248 rfl ?_
  refine awp_seq ?_
  refine awp_region ?_
  refine sq_plain rfl rfl rfl (w_assign rfl ev_cnils) ?_
  refine sq_nil ?_
  refine awp_seq ?_
  refine awp_region ?_
  refine sq_plain rfl rfl rfl (w_move rfl (ev_tmp rfl)) ?_
  refine sq_plain rfl rfl rfl (w_llen rfl Try.underlying173 (ev_tmp rfl)) ?_
  refine sq_make (by' := 32) rfl rfl rfl rfl Try.underlying151 Try.type155 rfl rfl rfl rfl rfl rfl (ev_tmp rfl) (ev_tmp rfl) (by simp only [List.length_map]; omega) (by simp only [List.length_map]; omega) ?_
  intro v7
  refine sq_plain rfl rfl rfl (w_assign rfl (ev_tmp rfl)) ?_
  refine sq_nil ?_
  refine awp_seq ?_
  refine awp_seq ?_
  refine awp_region ?_
  refine sq_plain rfl rfl rfl (w_assign rfl ev_ci) ?_
  refine sq_nil ?_
  refine awp_block ?_
  refine awp_loop_i [(0, _), (2, _), (3, _)] _ (fun (i : Nat) => i ≤ l.length) (fun (i : Nat) => [.arr v7 155 3 ((l.take i).map TVer.cs ++ List.replicate (l.length - i) [AV.int 0, AV.str [], AV.bool false])]) (fun (i : Nat) => [(4, AV.int i)]) (fun (i : Nat) => l.length - i) (0) ?_ (le_eq (by simp only [List.length_map]; rfl) ⟨rfl, rfl, rfl, rfl, trivial⟩) ?_
  · exact Nat.zero_le _
  intro i hinv
  refine awp_seq ?_
  refine awp_seq ?_
  refine awp_region ?_
  refine sq_plain rfl rfl rfl (w_move rfl (ev_tmp rfl)) ?_
  refine sq_plain rfl rfl rfl (w_move rfl (ev_tmp rfl)) ?_
  refine sq_plain rfl rfl rfl (w_llen rfl Try.underlying173 (ev_tmp rfl)) ?_
  refine sq_plain rfl rfl rfl (w_lss rfl (ev_tmp rfl) (ev_tmp rfl)) ?_
  refine sq_nil ?_
  refine awp_cond (ev_tmp rfl) ?_ ?_
  · intro h11
    have k11 := of_decide_eq_true h11; try simp only [List.length_map] at k11
    have hlt : i < l.length := by omega
    obtain ⟨x, hx⟩ := get_some hlt
    have hsx : TVer.size x ≤ 1048576 := Nat.le_trans (sizeL_get hx) hs
    refine awp_skip ?_
    refine awp_seq ?_
    refine awp_block ?_
    refine awp_region ?_
    refine sq_plain rfl rfl rfl (w_move rfl (ev_tmp rfl)) ?_
    refine sq_plain rfl rfl rfl (w_move rfl (ev_tmp rfl)) ?_
    refine sq_plain rfl rfl rfl (w_move rfl (ev_tmp rfl)) ?_
    refine sq_plain rfl rfl rfl (w_move rfl (ev_tmp rfl)) ?_
    refine sq_plain rfl rfl rfl (w_idx rfl Try.underlying173 Try.sizeOf243 (ev_tmp rfl) (ev_tmp rfl) (by omega) (by simp only [Int.toNat_natCast, List.getElem?_map, hx, Option.map_some]; try rfl)) ?_
    refine sq_plain rfl rfl rfl (w_loadE rfl (ev_tmp rfl) Try.isAgg243 Try.sizeOf243) ?_
    refine sq_plain rfl rfl rfl (w_call rfl Try.call282 rfl (toVer_spec _ (by first | assumption | omega | (simp only [] at *; omega))) (evl_cons (ev_tmp rfl) evl_nil)) ?_
    refine sq_plain rfl rfl rfl (w_aidx 0 rfl Try.underlying151 Try.sizeOf155 (ev_tmp rfl) rfl (ev_tmp rfl) (by omega) (by rw [fill_len hinv]; omega)) ?_
    refine sq_storeA 0 rfl rfl rfl (ev_tmp rfl) (ev_tmp rfl) (as_agg _) rfl Try.sizeOf155 rfl (by rw [fill_len hinv]; omega) ?_
    refine sq_nil ?_
    refine awp_region ?_
    refine sq_plain rfl rfl rfl (w_move rfl (ev_tmp rfl)) ?_
    refine sq_plain rfl rfl rfl (w_addi rfl (ev_tmp rfl) ev_ci (by first | omega | ((try simp only [List.length_map, List.length_take, List.length_cons, List.length_nil, chunks_len, szR] at *); omega) | (have hc2 := hc; simp only [Bool.and_eq_true, Bool.or_eq_true, Bool.or_eq_false_iff, Bool.and_eq_false_iff, Bool.not_eq_true', Bool.not_eq_false', decide_eq_true_eq, decide_eq_false_iff_not, beq_iff_eq, bne_iff_ne, List.length_map, List.length_take] at hc2; omega))) ?_
    refine sq_plain rfl rfl rfl (w_assign rfl (ev_tmp rfl)) ?_
    refine sq_nil ?_
    refine round_end i (i + 1) ?_ ?_ (le_eq (by exact congrArg (fun z => [Own.arr v7 155 3 z]) (fill_step hx)) ⟨rfl, rfl, rfl, rfl, trivial⟩)
    · omega
    · omega
  · intro h11
    have k11 := of_decide_eq_false h11; try simp only [List.length_map] at k11
    have hge : l.length ≤ i := by omega
    rw [fill_done hge]
    refine awp_exit ?_
    refine awp_seq ?_
    refine awp_region ?_
    refine sq_plain rfl rfl rfl (w_move rfl (ev_tmp rfl)) ?_
    refine sq_plain rfl rfl rfl (w_assign rfl (ev_tmp rfl)) ?_
    refine sq_nil ?_
    refine awp_ret ?_
    exact retG [0] v7 (trivial) rfl (by rfl) (resR rfl (rv_tmp' rfl (by first | rfl | (refine congrArg AV.bool ?_; simp_all; done))))
theorem markVerS_spec (v : Value) (l : List TVer) (k : Int) (h : 0 ≤ k ∧ k + 3 * l.length ≤ 4611686018427387904) : GSpec Try.prog 184 [AV.is v, AV.int k] [.arr v 155 3 (l.map TVer.cs)] (fun _ : Unit => True) (fun _ => [.arr v 155 3 ((marks mkVer 3 l.length k).map TVer.cs)]) (fun _ => AV.int (k + 3 * l.length)) := by
  refine gspec_of_awp Try.func184 rfl Try.ntmps184 rfl ?_
  refine awp_seq ?_
  refine awp_region ?_
  refine sq_plain rfl rfl rfl (w_assign rfl ev_ci) ?_
  refine sq_nil ?_
  refine awp_seq ?_
  refine awp_seq ?_
  refine awp_region ?_
  refine sq_plain rfl rfl rfl (w_assign rfl ev_ci) ?_
  refine sq_nil ?_
  refine awp_block ?_
  refine awp_loop_i2 [(0, _), (4, _)] _ (fun (i : Nat) (c : Int) => i ≤ l.length ∧ c = k + 3 * i) (fun (i : Nat) (c : Int) => [.arr v 155 3 ((marks mkVer 3 i k).map TVer.cs ++ (l.drop i).map TVer.cs)]) (fun (i : Nat) (c : Int) => [(1, AV.int c), (5, AV.int i)]) (fun (i : Nat) (c : Int) => l.length - i) (0) (k) ?_ (le_eq (by simp only [marks, List.map_nil, List.nil_append, List.drop_zero]; rfl) ⟨rfl, rfl, rfl, rfl, trivial⟩) ?_
  · exact ⟨Nat.zero_le _, by simp⟩
  intro i c hinv
  refine awp_seq ?_
  refine awp_seq ?_
  refine awp_region ?_
  refine sq_plain rfl rfl rfl (w_move rfl (ev_tmp rfl)) ?_
  refine sq_plain rfl rfl rfl (w_move rfl (ev_tmp rfl)) ?_
  refine sq_plain rfl rfl rfl (w_alen 0 rfl Try.underlying151 (ev_tmp rfl) rfl) ?_
  refine sq_plain rfl rfl rfl (w_lss rfl (ev_tmp rfl) (ev_tmp rfl)) ?_
  refine sq_nil ?_
  refine awp_cond (ev_tmp rfl) ?_ ?_
  · intro h9
    have k9 := of_decide_eq_true h9; try simp only [List.length_map] at k9
    simp only [List.length_append, List.length_map, marks_len, List.length_drop] at k9
    have hlt : i < l.length := by omega
    obtain ⟨x, hx⟩ := get_some hlt
    rw [drop_get hx]
    refine awp_skip ?_
    refine awp_seq ?_
    refine awp_block ?_
    refine awp_seq ?_
    refine awp_region ?_
    refine sq_plain rfl rfl rfl (w_move rfl (ev_tmp rfl)) ?_
    refine sq_plain rfl rfl rfl (w_move rfl (ev_tmp rfl)) ?_
    refine sq_plain rfl rfl rfl (w_move rfl (ev_tmp rfl)) ?_
    refine sq_plain rfl rfl rfl (w_aidx 0 rfl Try.underlying151 Try.sizeOf155 (ev_tmp rfl) rfl (ev_tmp rfl) (by omega) (by simp only [List.length_append, List.length_map, marks_len, List.length_cons, List.length_drop]; omega)) ?_
    refine sq_plain rfl rfl rfl (w_fldX 0 rfl Try.underlying155 rfl Try.sizeOf3 (ev_tmp rfl) rfl rfl (app_get (by simp [marks_len]))) ?_
    refine sq_storeXA 0 rfl rfl rfl (ev_tmp rfl) (ev_tmp rfl) (as_ik _ _) rfl Try.sizeOf3 (by simp [marks_len]) rfl ?_
    refine sq_nil ?_
    refine awp_seq ?_
    refine awp_region ?_
    refine sq_plain rfl rfl rfl (w_move rfl (ev_tmp rfl)) ?_
    refine sq_plain rfl rfl rfl (w_addi rfl (ev_tmp rfl) ev_ci (by first | omega | ((try simp only [List.length_map, List.length_take, List.length_cons, List.length_nil, chunks_len, szR] at *); omega) | (have hc2 := hc; simp only [Bool.and_eq_true, Bool.or_eq_true, Bool.or_eq_false_iff, Bool.and_eq_false_iff, Bool.not_eq_true', Bool.not_eq_false', decide_eq_true_eq, decide_eq_false_iff_not, beq_iff_eq, bne_iff_ne, List.length_map, List.length_take] at hc2; omega))) ?_
    refine sq_plain rfl rfl rfl (w_assign rfl (ev_tmp rfl)) ?_
    refine sq_nil ?_
    refine awp_seq ?_
    refine awp_region ?_
    refine sq_plain rfl rfl rfl (w_move rfl (ev_tmp rfl)) ?_
    refine sq_plain rfl rfl rfl (w_move rfl (ev_tmp rfl)) ?_
    refine sq_plain rfl rfl rfl (w_move rfl (ev_tmp rfl)) ?_
    refine sq_plain rfl rfl rfl (w_call rfl Try.call183 rfl (markText_spec _ (by omega)) (evl_cons (ev_tmp rfl) evl_nil)) ?_
    refine sq_plain rfl rfl rfl (w_aidx 0 rfl Try.underlying151 Try.sizeOf155 (ev_tmp rfl) rfl (ev_tmp rfl) (by omega) (by simp only [List.length_append, List.length_map, marks_len, List.length_cons, List.length_drop]; omega)) ?_
    refine sq_plain rfl rfl rfl (w_fldX 0 rfl Try.underlying155 rfl Try.sizeOf9 (ev_tmp rfl) rfl rfl (app_get (by simp [marks_len]))) ?_
    refine sq_storeXA 0 rfl rfl rfl (ev_tmp rfl) (ev_tmp rfl) (as_str _) rfl Try.sizeOf9 (by simp [marks_len]) rfl ?_
    refine sq_nil ?_
    refine awp_seq ?_
    refine awp_region ?_
    refine sq_plain rfl rfl rfl (w_move rfl (ev_tmp rfl)) ?_
    refine sq_plain rfl rfl rfl (w_addi rfl (ev_tmp rfl) ev_ci (by first | omega | ((try simp only [List.length_map, List.length_take, List.length_cons, List.length_nil, chunks_len, szR] at *); omega) | (have hc2 := hc; simp only [Bool.and_eq_true, Bool.or_eq_true, Bool.or_eq_false_iff, Bool.and_eq_false_iff, Bool.not_eq_true', Bool.not_eq_false', decide_eq_true_eq, decide_eq_false_iff_not, beq_iff_eq, bne_iff_ne, List.length_map, List.length_take] at hc2; omega))) ?_
    refine sq_plain rfl rfl rfl (w_assign rfl (ev_tmp rfl)) ?_
    refine sq_nil ?_
    refine awp_seq ?_
    refine awp_region ?_
    refine sq_plain rfl rfl rfl (w_move rfl (ev_tmp rfl)) ?_
    refine sq_plain rfl rfl rfl (w_move rfl (ev_tmp rfl)) ?_
    refine sq_plain rfl rfl rfl (w_move rfl (ev_tmp rfl)) ?_
    refine sq_plain rfl rfl rfl (w_rem rfl (ev_tmp rfl) ev_ci (by first | omega | ((try simp only [List.length_map, List.length_take, List.length_cons, List.length_nil, chunks_len, szR] at *); omega) | (have hc2 := hc; simp only [Bool.and_eq_true, Bool.or_eq_true, Bool.or_eq_false_iff, Bool.and_eq_false_iff, Bool.not_eq_true', Bool.not_eq_false', decide_eq_true_eq, decide_eq_false_iff_not, beq_iff_eq, bne_iff_ne, List.length_map, List.length_take] at hc2; omega))) ?_
    refine sq_plain rfl rfl rfl (w_eql rfl (ev_tmp rfl) ev_ci) ?_
    refine sq_plain rfl rfl rfl (w_aidx 0 rfl Try.underlying151 Try.sizeOf155 (ev_tmp rfl) rfl (ev_tmp rfl) (by omega) (by simp only [List.length_append, List.length_map, marks_len, List.length_cons, List.length_drop]; omega)) ?_
    refine sq_plain rfl rfl rfl (w_fldX 0 rfl Try.underlying155 rfl Try.sizeOf4 (ev_tmp rfl) rfl rfl (app_get (by simp [marks_len]))) ?_
    refine sq_storeXA 0 rfl rfl rfl (ev_tmp rfl) (ev_tmp rfl) (as_bool _) rfl Try.sizeOf4 (by simp [marks_len]) rfl ?_
    refine sq_nil ?_
    refine awp_region ?_
    refine sq_plain rfl rfl rfl (w_move rfl (ev_tmp rfl)) ?_
    refine sq_plain rfl rfl rfl (w_addi rfl (ev_tmp rfl) ev_ci (by first | omega | ((try simp only [List.length_map, List.length_take, List.length_cons, List.length_nil, chunks_len, szR] at *); omega) | (have hc2 := hc; simp only [Bool.and_eq_true, Bool.or_eq_true, Bool.or_eq_false_iff, Bool.and_eq_false_iff, Bool.not_eq_true', Bool.not_eq_false', decide_eq_true_eq, decide_eq_false_iff_not, beq_iff_eq, bne_iff_ne, List.length_map, List.length_take] at hc2; omega))) ?_
    refine sq_plain rfl rfl rfl (w_assign rfl (ev_tmp rfl)) ?_
    refine sq_nil ?_
    refine awp_region ?_
    refine sq_plain rfl rfl rfl (w_move rfl (ev_tmp rfl)) ?_
    refine sq_plain rfl rfl rfl (w_addi rfl (ev_tmp rfl) ev_ci (by first | omega | ((try simp only [List.length_map, List.length_take, List.length_cons, List.length_nil, chunks_len, szR] at *); omega) | (have hc2 := hc; simp only [Bool.and_eq_true, Bool.or_eq_true, Bool.or_eq_false_iff, Bool.and_eq_false_iff, Bool.not_eq_true', Bool.not_eq_false', decide_eq_true_eq, decide_eq_false_iff_not, beq_iff_eq, bne_iff_ne, List.length_map, List.length_take] at hc2; omega))) ?_
    refine sq_plain rfl rfl rfl (w_assign rfl (ev_tmp rfl)) ?_
    refine sq_nil ?_
    refine round_end2 i c (i + 1) (c + 1 + 1 + 1) ?_ ?_ (le_eq (by exact congrArg (fun z => [Own.arr v 155 3 z]) (marks_step (by first | (rw [← hinv.2]; done) | (rw [← hinv.2]; rfl)))) ⟨rfl, rfl, rfl, rfl, trivial⟩)
    · exact ⟨by omega, by omega⟩
    · omega
  · intro h9
    have k9 := of_decide_eq_false h9; try simp only [List.length_map] at k9
    simp only [List.length_append, List.length_map, marks_len, List.length_drop] at k9
    have hge : i = l.length := by omega
    subst hge
    simp only [List.drop_length, List.map_nil, List.append_nil]
    refine awp_exit ?_
    refine awp_seq ?_
    refine awp_region ?_
    refine sq_plain rfl rfl rfl (w_move rfl (ev_tmp rfl)) ?_
    refine sq_plain rfl rfl rfl (w_assign rfl (ev_tmp rfl)) ?_
    refine sq_nil ?_
    refine awp_ret ?_
    exact retG [0] () (trivial) rfl (by rfl) (resR rfl (rv_tmp' rfl (by exact congrArg AV.int (by omega))))
theorem heldVerS_spec (m : Nat) (k : Int) (h : 0 ≤ k ∧ k + 3 * m ≤ 4611686018427387904) : FSpec Try.prog 185 [AV.list 3 ((marks mkVer 3 m k).map TVer.cs), AV.int k] (AV.int (k + 3 * m)) := by
  refine spec_of_awp Try.func185 rfl Try.ntmps185 rfl ?_
  refine awp_seq ?_
  refine awp_region ?_
  refine sq_plain rfl rfl rfl (w_assign rfl ev_ci) ?_
  refine sq_nil ?_
  refine awp_seq ?_
  refine awp_seq ?_
  refine awp_region ?_
  refine sq_plain rfl rfl rfl (w_assign rfl ev_ci) ?_
  refine sq_nil ?_
  refine awp_block ?_
  refine awp_loop_i2 [(0, _)] _ (fun (i : Nat) (c : Int) => i ≤ m ∧ c = k + 3 * i) (fun (i : Nat) (c : Int) => []) (fun (i : Nat) (c : Int) => [(1, AV.int c), (5, AV.int i)]) (fun (i : Nat) (c : Int) => m - i) (0) (k) ?_ (le_env ⟨rfl, rfl, rfl, trivial⟩) ?_
  · exact ⟨Nat.zero_le _, by simp⟩
  intro i c hinv
  refine awp_seq ?_
  refine awp_seq ?_
  refine awp_region ?_
  refine sq_plain rfl rfl rfl (w_move rfl (ev_tmp rfl)) ?_
  refine sq_plain rfl rfl rfl (w_move rfl (ev_tmp rfl)) ?_
  refine sq_plain rfl rfl rfl (w_llen rfl Try.underlying151 (ev_tmp rfl)) ?_
  refine sq_plain rfl rfl rfl (w_lss rfl (ev_tmp rfl) (ev_tmp rfl)) ?_
  refine sq_nil ?_
  refine awp_cond (ev_tmp rfl) ?_ ?_
  · intro h9
    have k9 := of_decide_eq_true h9; try simp only [List.length_map] at k9
    simp only [List.length_map, marks_len] at k9
    have hlt : i < m := by omega
    have hx := marks_get mkVer 3 m i k hlt
    rw [← hinv.2] at hx
    refine awp_skip ?_
    refine awp_seq ?_
    refine awp_block ?_
    refine awp_seq ?_
    refine awp_seq ?_
    refine awp_region ?_
    refine sq_plain rfl rfl rfl (w_move rfl (ev_tmp rfl)) ?_
    refine sq_plain rfl rfl rfl (w_move rfl (ev_tmp rfl)) ?_
    refine sq_plain rfl rfl rfl (w_idxm rfl Try.underlying151 Try.sizeOf155 (ev_tmp rfl) (ev_tmp rfl) hx (by first | omega | ((try simp only [List.length_map, List.length_take, List.length_cons, List.length_nil, chunks_len, szR] at *); omega) | (have hc2 := hc; simp only [Bool.and_eq_true, Bool.or_eq_true, Bool.or_eq_false_iff, Bool.and_eq_false_iff, Bool.not_eq_true', Bool.not_eq_false', decide_eq_true_eq, decide_eq_false_iff_not, beq_iff_eq, bne_iff_ne, List.length_map, List.length_take] at hc2; omega))) ?_
    refine sq_plain rfl rfl rfl (w_fldE rfl Try.underlying155 rfl Try.sizeOf3 (ev_tmp rfl) rfl) ?_
    refine sq_plain rfl rfl rfl (w_loadE1 rfl (ev_tmp rfl) Try.isAgg3 rfl) ?_
    refine sq_plain rfl rfl rfl (w_move rfl (ev_tmp rfl)) ?_
    refine sq_plain rfl rfl rfl (w_neq rfl (ev_tmp rfl) (ev_tmp rfl)) ?_
    refine sq_nil ?_
    refine awp_cond (ev_tmp rfl) ?_ ?_
    · intro h18
      have k18 := ne_of_bne h18; try simp only [List.length_map] at k18
      exfalso; simp [mkVer, m3] at h18
    · intro h18
      have k18 := eq_of_bne_false h18; try simp only [List.length_map] at k18
      refine awp_skip ?_
      refine awp_seq ?_
      refine awp_region ?_
      refine sq_plain rfl rfl rfl (w_move rfl (ev_tmp rfl)) ?_
      refine sq_plain rfl rfl rfl (w_addi rfl (ev_tmp rfl) ev_ci (by first | omega | ((try simp only [List.length_map, List.length_take, List.length_cons, List.length_nil, chunks_len, szR] at *); omega) | (have hc2 := hc; simp only [Bool.and_eq_true, Bool.or_eq_true, Bool.or_eq_false_iff, Bool.and_eq_false_iff, Bool.not_eq_true', Bool.not_eq_false', decide_eq_true_eq, decide_eq_false_iff_not, beq_iff_eq, bne_iff_ne, List.length_map, List.length_take] at hc2; omega))) ?_
      refine sq_plain rfl rfl rfl (w_assign rfl (ev_tmp rfl)) ?_
      refine sq_nil ?_
      refine awp_seq ?_
      refine awp_seq ?_
      refine awp_region_any (by kernel_rfl) (by kernel_rfl) rfl ?_
      refine ch_plain rfl rfl (w_move rfl (ev_tmp rfl)) ?_
      refine ch_plain rfl rfl (w_move rfl (ev_tmp rfl)) ?_
      refine ch_plain rfl rfl (w_idxm rfl Try.underlying151 Try.sizeOf155 (ev_tmp rfl) (ev_tmp rfl) hx (by first | omega | ((try simp only [List.length_map, List.length_take, List.length_cons, List.length_nil, chunks_len, szR] at *); omega) | (have hc2 := hc; simp only [Bool.and_eq_true, Bool.or_eq_true, Bool.or_eq_false_iff, Bool.and_eq_false_iff, Bool.not_eq_true', Bool.not_eq_false', decide_eq_true_eq, decide_eq_false_iff_not, beq_iff_eq, bne_iff_ne, List.length_map, List.length_take] at hc2; omega))) ?_
      refine ch_plain rfl rfl (w_fldE rfl Try.underlying155 rfl Try.sizeOf9 (ev_tmp rfl) rfl) ?_
      refine ch_plain rfl rfl (w_loadE1 rfl (ev_tmp rfl) Try.isAgg9 rfl) ?_
      refine ch_plain rfl rfl (w_move rfl (ev_tmp rfl)) ?_
      refine ch_plain rfl rfl (w_call rfl Try.call183 rfl (markText_spec _ (by omega)) (evl_cons (ev_tmp rfl) evl_nil)) ?_
      refine ch_plain rfl rfl (w_sneq rfl (ev_tmp rfl) (ev_tmp rfl)) ?_
      refine ch_nil ?_
      refine awp_cond (ev_tmp rfl) ?_ ?_
      · intro h28
        exfalso; simp [mkVer, m3] at h28
      · intro h28
        refine awp_skip ?_
        refine awp_seq ?_
        refine awp_region ?_
        refine sq_plain rfl rfl rfl (w_move rfl (ev_tmp rfl)) ?_
        refine sq_plain rfl rfl rfl (w_addi rfl (ev_tmp rfl) ev_ci (by first | omega | ((try simp only [List.length_map, List.length_take, List.length_cons, List.length_nil, chunks_len, szR] at *); omega) | (have hc2 := hc; simp only [Bool.and_eq_true, Bool.or_eq_true, Bool.or_eq_false_iff, Bool.and_eq_false_iff, Bool.not_eq_true', Bool.not_eq_false', decide_eq_true_eq, decide_eq_false_iff_not, beq_iff_eq, bne_iff_ne, List.length_map, List.length_take] at hc2; omega))) ?_
        refine sq_plain rfl rfl rfl (w_assign rfl (ev_tmp rfl)) ?_
        refine sq_nil ?_
        refine awp_seq ?_
        refine awp_seq ?_
        refine awp_region ?_
        refine sq_plain rfl rfl rfl (w_move rfl (ev_tmp rfl)) ?_
        refine sq_plain rfl rfl rfl (w_move rfl (ev_tmp rfl)) ?_
        refine sq_plain rfl rfl rfl (w_idxm rfl Try.underlying151 Try.sizeOf155 (ev_tmp rfl) (ev_tmp rfl) hx (by first | omega | ((try simp only [List.length_map, List.length_take, List.length_cons, List.length_nil, chunks_len, szR] at *); omega) | (have hc2 := hc; simp only [Bool.and_eq_true, Bool.or_eq_true, Bool.or_eq_false_iff, Bool.and_eq_false_iff, Bool.not_eq_true', Bool.not_eq_false', decide_eq_true_eq, decide_eq_false_iff_not, beq_iff_eq, bne_iff_ne, List.length_map, List.length_take] at hc2; omega))) ?_
        refine sq_plain rfl rfl rfl (w_fldE rfl Try.underlying155 rfl Try.sizeOf4 (ev_tmp rfl) rfl) ?_
        refine sq_plain rfl rfl rfl (w_loadE1 rfl (ev_tmp rfl) Try.isAgg4 rfl) ?_
        refine sq_plain rfl rfl rfl (w_move rfl (ev_tmp rfl)) ?_
        refine sq_plain rfl rfl rfl (w_rem rfl (ev_tmp rfl) ev_ci (by first | omega | ((try simp only [List.length_map, List.length_take, List.length_cons, List.length_nil, chunks_len, szR] at *); omega) | (have hc2 := hc; simp only [Bool.and_eq_true, Bool.or_eq_true, Bool.or_eq_false_iff, Bool.and_eq_false_iff, Bool.not_eq_true', Bool.not_eq_false', decide_eq_true_eq, decide_eq_false_iff_not, beq_iff_eq, bne_iff_ne, List.length_map, List.length_take] at hc2; omega))) ?_
        refine sq_plain rfl rfl rfl (w_eql rfl (ev_tmp rfl) ev_ci) ?_
        refine sq_plain rfl rfl rfl (w_bneq rfl Try.underlying4 (ev_tmp rfl) (ev_tmp rfl)) ?_
        refine sq_nil ?_
        refine awp_cond (ev_tmp rfl) ?_ ?_
        · intro h39
          exfalso; simp [mkVer, m3] at h39
        · intro h39
          refine awp_skip ?_
          refine awp_region ?_
          refine sq_plain rfl rfl rfl (w_move rfl (ev_tmp rfl)) ?_
          refine sq_plain rfl rfl rfl (w_addi rfl (ev_tmp rfl) ev_ci (by first | omega | ((try simp only [List.length_map, List.length_take, List.length_cons, List.length_nil, chunks_len, szR] at *); omega) | (have hc2 := hc; simp only [Bool.and_eq_true, Bool.or_eq_true, Bool.or_eq_false_iff, Bool.and_eq_false_iff, Bool.not_eq_true', Bool.not_eq_false', decide_eq_true_eq, decide_eq_false_iff_not, beq_iff_eq, bne_iff_ne, List.length_map, List.length_take] at hc2; omega))) ?_
          refine sq_plain rfl rfl rfl (w_assign rfl (ev_tmp rfl)) ?_
          refine sq_nil ?_
          refine awp_region ?_
          refine sq_plain rfl rfl rfl (w_move rfl (ev_tmp rfl)) ?_
          refine sq_plain rfl rfl rfl (w_addi rfl (ev_tmp rfl) ev_ci (by first | omega | ((try simp only [List.length_map, List.length_take, List.length_cons, List.length_nil, chunks_len, szR] at *); omega) | (have hc2 := hc; simp only [Bool.and_eq_true, Bool.or_eq_true, Bool.or_eq_false_iff, Bool.and_eq_false_iff, Bool.not_eq_true', Bool.not_eq_false', decide_eq_true_eq, decide_eq_false_iff_not, beq_iff_eq, bne_iff_ne, List.length_map, List.length_take] at hc2; omega))) ?_
          refine sq_plain rfl rfl rfl (w_assign rfl (ev_tmp rfl)) ?_
          refine sq_nil ?_
          refine round_end2 i c (i + 1) (c + 1 + 1 + 1) ?_ ?_ (le_env ⟨rfl, rfl, rfl, trivial⟩)
          · exact ⟨by omega, by omega⟩
          · omega
  · intro h9
    have k9 := of_decide_eq_false h9; try simp only [List.length_map] at k9
    simp only [List.length_map, marks_len] at k9
    refine awp_exit ?_
    refine awp_seq ?_
    refine awp_region ?_
    refine sq_plain rfl rfl rfl (w_move rfl (ev_tmp rfl)) ?_
    refine sq_plain rfl rfl rfl (w_assign rfl (ev_tmp rfl)) ?_
    refine sq_nil ?_
    refine awp_ret ?_
    exact retR rfl (rv_tmp' rfl (by exact congrArg AV.int (by omega)))
theorem toFeedItemS_own (l : List TFeedItem) (hs : sizeL TFeedItem.size l ≤ 1048576) : GSpec Try.prog 77 [AV.list 5 (l.map TFeedItem.cs)] [] (fun _ : Value => True) (fun v => [.arr v 179 5 (l.map TFeedItem.cs)]) (fun v => AV.is v) := by
  have hsl : l.length ≤ 1048576 := Nat.le_trans sizeL_len hs
  refine gspec_of_awp Try.func77 rfl Try.ntmps77 rfl ?_
  refine awp_seq ?_
  refine awp_region ?_
  refine sq_plain rfl rfl rfl (w_assign rfl ev_cnils) ?_
  refine sq_nil ?_
  refine awp_seq ?_
  refine awp_region ?_
  refine sq_plain rfl rfl rfl (w_move rfl (ev_tmp rfl)) ?_
  refine sq_plain rfl rfl rfl (w_llen rfl Try.underlying82 (ev_tmp rfl)) ?_
  refine sq_make (by' := 56) rfl rfl rfl rfl Try.underlying87 Try.type179 rfl rfl rfl rfl rfl rfl (ev_tmp rfl) (ev_tmp rfl) (by simp only [List.length_map]; omega) (by simp only [List.length_map]; omega) ?_
  intro v7
  refine sq_plain rfl rfl rfl (w_assign rfl (ev_tmp rfl)) ?_
  refine sq_nil ?_
  refine awp_seq ?_
  refine awp_seq ?_
  refine awp_region ?_
  refine sq_plain rfl rfl rfl (w_assign rfl ev_ci) ?_
  refine sq_nil ?_
  refine awp_block ?_
  refine awp_loop_i [(0, _), (2, _), (3, _)] _ (fun (i : Nat) => i ≤ l.length) (fun (i : Nat) => [.arr v7 179 5 ((l.take i).map TFeedItem.cs ++ List.replicate (l.length - i) [AV.int 0, AV.int 0, AV.str [], AV.str [], AV.bool false])]) (fun (i : Nat) => [(4, AV.int i)]) (fun (i : Nat) => l.length - i) (0) ?_ (le_eq (by simp only [List.length_map]; rfl) ⟨rfl, rfl, rfl, rfl, trivial⟩) ?_
  · exact Nat.zero_le _
  intro i hinv
  refine awp_seq ?_
  refine awp_seq ?_
  refine awp_region ?_
  refine sq_plain rfl rfl rfl (w_move rfl (ev_tmp rfl)) ?_
  refine sq_plain rfl rfl rfl (w_move rfl (ev_tmp rfl)) ?_
  refine sq_plain rfl rfl rfl (w_llen rfl Try.underlying82 (ev_tmp rfl)) ?_
  refine sq_plain rfl rfl rfl (w_lss rfl (ev_tmp rfl) (ev_tmp rfl)) ?_
  refine sq_nil ?_
  refine awp_cond (ev_tmp rfl) ?_ ?_
  · intro h11
    have k11 := of_decide_eq_true h11; try simp only [List.length_map] at k11
    have hlt : i < l.length := by omega
    obtain ⟨x, hx⟩ := get_some hlt
    have hsx : TFeedItem.size x ≤ 1048576 := Nat.le_trans (sizeL_get hx) hs
    refine awp_skip ?_
    refine awp_seq ?_
    refine awp_block ?_
    refine awp_region ?_
    refine sq_plain rfl rfl rfl (w_move rfl (ev_tmp rfl)) ?_
    refine sq_plain rfl rfl rfl (w_move rfl (ev_tmp rfl)) ?_
    refine sq_plain rfl rfl rfl (w_move rfl (ev_tmp rfl)) ?_
    refine sq_plain rfl rfl rfl (w_move rfl (ev_tmp rfl)) ?_
    refine sq_plain rfl rfl rfl (w_idx rfl Try.underlying82 Try.sizeOf178 (ev_tmp rfl) (ev_tmp rfl) (by omega) (by simp only [Int.toNat_natCast, List.getElem?_map, hx, Option.map_some]; try rfl)) ?_
    refine sq_plain rfl rfl rfl (w_loadE rfl (ev_tmp rfl) Try.isAgg178 Try.sizeOf178) ?_
    refine sq_plain rfl rfl rfl (w_call rfl Try.call178 rfl (toFeedItem_spec _ (by first | assumption | omega | (simp only [] at *; omega))) (evl_cons (ev_tmp rfl) evl_nil)) ?_
    refine sq_plain rfl rfl rfl (w_aidx 0 rfl Try.underlying87 Try.sizeOf179 (ev_tmp rfl) rfl (ev_tmp rfl) (by omega) (by rw [fill_len hinv]; omega)) ?_
    refine sq_storeA 0 rfl rfl rfl (ev_tmp rfl) (ev_tmp rfl) (as_agg _) rfl Try.sizeOf179 rfl (by rw [fill_len hinv]; omega) ?_
    refine sq_nil ?_
    refine awp_region ?_
    refine sq_plain rfl rfl rfl (w_move rfl (ev_tmp rfl)) ?_
    refine sq_plain rfl rfl rfl (w_addi rfl (ev_tmp rfl) ev_ci (by first | omega | ((try simp only [List.length_map, List.length_take, List.length_cons, List.length_nil, chunks_len, szR] at *); omega) | (have hc2 := hc; simp only [Bool.and_eq_true, Bool.or_eq_true, Bool.or_eq_false_iff, Bool.and_eq_false_iff, Bool.not_eq_true', Bool.not_eq_false', decide_eq_true_eq, decide_eq_false_iff_not, beq_iff_eq, bne_iff_ne, List.length_map, List.length_take] at hc2; omega))) ?_
    refine sq_plain rfl rfl rfl (w_assign rfl (ev_tmp rfl)) ?_
    refine sq_nil ?_
    refine round_end i (i + 1) ?_ ?_ (le_eq (by exact congrArg (fun z => [Own.arr v7 179 5 z]) (fill_step hx)) ⟨rfl, rfl, rfl, rfl, trivial⟩)
    · omega
    · omega
  · intro h11
    have k11 := of_decide_eq_false h11; try simp only [List.length_map] at k11
    have hge : l.length ≤ i := by omega
    rw [fill_done hge]
    refine awp_exit ?_
    refine awp_seq ?_
    refine awp_region ?_
    refine sq_plain rfl rfl rfl (w_move rfl (ev_tmp rfl)) ?_
    refine sq_plain rfl rfl rfl (w_assign rfl (ev_tmp rfl)) ?_
    refine sq_nil ?_
    refine awp_ret ?_
    exact retG [0] v7 (trivial) rfl (by rfl) (resR rfl (rv_tmp' rfl (by first | rfl | (refine congrArg AV.bool ?_; simp_all; done))))
theorem markFeedItemS_spec (v : Value) (l : List TFeedItem) (k : Int) (h : 0 ≤ k ∧ k + 5 * l.length ≤ 4611686018427387904) : GSpec Try.prog 82 [AV.is v, AV.int k] [.arr v 179 5 (l.map TFeedItem.cs)] (fun _ : Unit => True) (fun _ => [.arr v 179 5 ((marks mkFeedItem 5 l.length k).map TFeedItem.cs)]) (fun _ => AV.int (k + 5 * l.length)) := by
  refine gspec_of_awp Try.func82 rfl Try.ntmps82 rfl ?_
  refine awp_seq ?_
  refine awp_region ?_
  refine sq_plain rfl rfl rfl (w_assign rfl ev_ci) ?_
  refine sq_nil ?_
  refine awp_seq ?_
  refine awp_seq ?_
  refine awp_region ?_
  refine sq_plain rfl rfl rfl (w_assign rfl ev_ci) ?_
  refine sq_nil ?_
  refine awp_block ?_
  refine awp_loop_i2 [(0, _), (4, _)] _ (fun (i : Nat) (c : Int) => i ≤ l.length ∧ c = k + 5 * i) (fun (i : Nat) (c : Int) => [.arr v 179 5 ((marks mkFeedItem 5 i k).map TFeedItem.cs ++ (l.drop i).map TFeedItem.cs)]) (fun (i : Nat) (c : Int) => [(1, AV.int c), (5, AV.int i)]) (fun (i : Nat) (c : Int) => l.length - i) (0) (k) ?_ (le_eq (by simp only [marks, List.map_nil, List.nil_append, List.drop_zero]; rfl) ⟨rfl, rfl, rfl, rfl, trivial⟩) ?_
  · exact ⟨Nat.zero_le _, by simp⟩
  intro i c hinv
  refine awp_seq ?_
  refine awp_seq ?_
  refine awp_region ?_
  refine sq_plain rfl rfl rfl (w_move rfl (ev_tmp rfl)) ?_
  refine sq_plain rfl rfl rfl (w_move rfl (ev_tmp rfl)) ?_
  refine sq_plain rfl rfl rfl (w_alen 0 rfl Try.underlying87 (ev_tmp rfl) rfl) ?_
  refine sq_plain rfl rfl rfl (w_lss rfl (ev_tmp rfl) (ev_tmp rfl)) ?_
  refine sq_nil ?_
  refine awp_cond (ev_tmp rfl) ?_ ?_
  · intro h9
    have k9 := of_decide_eq_true h9; try simp only [List.length_map] at k9
    simp only [List.length_append, List.length_map, marks_len, List.length_drop] at k9
    have hlt : i < l.length := by omega
    obtain ⟨x, hx⟩ := get_some hlt
    rw [drop_get hx]
    refine awp_skip ?_
    refine awp_seq ?_
    refine awp_block ?_
    refine awp_seq ?_
    refine awp_region ?_
    refine sq_plain rfl rfl rfl (w_move rfl (ev_tmp rfl)) ?_
    refine sq_plain rfl rfl rfl (w_move rfl (ev_tmp rfl)) ?_
    refine sq_plain rfl rfl rfl (w_move rfl (ev_tmp rfl)) ?_
    refine sq_plain rfl rfl rfl (w_aidx 0 rfl Try.underlying87 Try.sizeOf179 (ev_tmp rfl) rfl (ev_tmp rfl) (by omega) (by simp only [List.length_append, List.length_map, marks_len, List.length_cons, List.length_drop]; omega)) ?_
    refine sq_plain rfl rfl rfl (w_fldX 0 rfl Try.underlying179 rfl Try.sizeOf3 (ev_tmp rfl) rfl rfl (app_get (by simp [marks_len]))) ?_
    refine sq_storeXA 0 rfl rfl rfl (ev_tmp rfl) (ev_tmp rfl) (as_ik _ _) rfl Try.sizeOf3 (by simp [marks_len]) rfl ?_
    refine sq_nil ?_
    refine awp_seq ?_
    refine awp_region ?_
    refine sq_plain rfl rfl rfl (w_move rfl (ev_tmp rfl)) ?_
    refine sq_plain rfl rfl rfl (w_addi rfl (ev_tmp rfl) ev_ci (by first | omega | ((try simp only [List.length_map, List.length_take, List.length_cons, List.length_nil, chunks_len, szR] at *); omega) | (have hc2 := hc; simp only [Bool.and_eq_true, Bool.or_eq_true, Bool.or_eq_false_iff, Bool.and_eq_false_iff, Bool.not_eq_true', Bool.not_eq_false', decide_eq_true_eq, decide_eq_false_iff_not, beq_iff_eq, bne_iff_ne, List.length_map, List.length_take] at hc2; omega))) ?_
    refine sq_plain rfl rfl rfl (w_assign rfl (ev_tmp rfl)) ?_
    refine sq_nil ?_
    refine awp_seq ?_
    refine awp_region ?_
    refine sq_plain rfl rfl rfl (w_move rfl (ev_tmp rfl)) ?_
    refine sq_plain rfl rfl rfl (w_move rfl (ev_tmp rfl)) ?_
    refine sq_plain rfl rfl rfl (w_move rfl (ev_tmp rfl)) ?_
    refine sq_plain rfl rfl rfl (w_aidx 0 rfl Try.underlying87 Try.sizeOf179 (ev_tmp rfl) rfl (ev_tmp rfl) (by omega) (by simp only [List.length_append, List.length_map, marks_len, List.length_cons, List.length_drop]; omega)) ?_
    refine sq_plain rfl rfl rfl (w_fldX 0 rfl Try.underlying179 rfl Try.sizeOf3 (ev_tmp rfl) rfl rfl (app_get (by simp [marks_len]))) ?_
    refine sq_storeXA 0 rfl rfl rfl (ev_tmp rfl) (ev_tmp rfl) (as_ik _ _) rfl Try.sizeOf3 (by simp [marks_len]) rfl ?_
    refine sq_nil ?_
    refine awp_seq ?_
    refine awp_region ?_
    refine sq_plain rfl rfl rfl (w_move rfl (ev_tmp rfl)) ?_
    refine sq_plain rfl rfl rfl (w_addi rfl (ev_tmp rfl) ev_ci (by first | omega | ((try simp only [List.length_map, List.length_take, List.length_cons, List.length_nil, chunks_len, szR] at *); omega) | (have hc2 := hc; simp only [Bool.and_eq_true, Bool.or_eq_true, Bool.or_eq_false_iff, Bool.and_eq_false_iff, Bool.not_eq_true', Bool.not_eq_false', decide_eq_true_eq, decide_eq_false_iff_not, beq_iff_eq, bne_iff_ne, List.length_map, List.length_take] at hc2; omega))) ?_
    refine sq_plain rfl rfl rfl (w_assign rfl (ev_tmp rfl)) ?_
    refine sq_nil ?_
    refine awp_seq ?_
    refine awp_region ?_
    refine sq_plain rfl rfl rfl (w_move rfl (ev_tmp rfl)) ?_
    refine sq_plain rfl rfl rfl (w_move rfl (ev_tmp rfl)) ?_
    refine sq_plain rfl rfl rfl (w_move rfl (ev_tmp rfl)) ?_
    refine sq_plain rfl rfl rfl (w_call rfl Try.call183 rfl (markText_spec _ (by omega)) (evl_cons (ev_tmp rfl) evl_nil)) ?_
    refine sq_plain rfl rfl rfl (w_aidx 0 rfl Try.underlying87 Try.sizeOf179 (ev_tmp rfl) rfl (ev_tmp rfl) (by omega) (by simp only [List.length_append, List.length_map, marks_len, List.length_cons, List.length_drop]; omega)) ?_
    refine sq_plain rfl rfl rfl (w_fldX 0 rfl Try.underlying179 rfl Try.sizeOf9 (ev_tmp rfl) rfl rfl (app_get (by simp [marks_len]))) ?_
    refine sq_storeXA 0 rfl rfl rfl (ev_tmp rfl) (ev_tmp rfl) (as_str _) rfl Try.sizeOf9 (by simp [marks_len]) rfl ?_
    refine sq_nil ?_
    refine awp_seq ?_
    refine awp_region ?_
    refine sq_plain rfl rfl rfl (w_move rfl (ev_tmp rfl)) ?_
    refine sq_plain rfl rfl rfl (w_addi rfl (ev_tmp rfl) ev_ci (by first | omega | ((try simp only [List.length_map, List.length_take, List.length_cons, List.length_nil, chunks_len, szR] at *); omega) | (have hc2 := hc; simp only [Bool.and_eq_true, Bool.or_eq_true, Bool.or_eq_false_iff, Bool.and_eq_false_iff, Bool.not_eq_true', Bool.not_eq_false', decide_eq_true_eq, decide_eq_false_iff_not, beq_iff_eq, bne_iff_ne, List.length_map, List.length_take] at hc2; omega))) ?_
    refine sq_plain rfl rfl rfl (w_assign rfl (ev_tmp rfl)) ?_
    refine sq_nil ?_
    refine awp_seq ?_
    refine awp_region ?_
    refine sq_plain rfl rfl rfl (w_move rfl (ev_tmp rfl)) ?_
    refine sq_plain rfl rfl rfl (w_move rfl (ev_tmp rfl)) ?_
    refine sq_plain rfl rfl rfl (w_move rfl (ev_tmp rfl)) ?_
    refine sq_plain rfl rfl rfl (w_call rfl Try.call183 rfl (markText_spec _ (by omega)) (evl_cons (ev_tmp rfl) evl_nil)) ?_
    refine sq_plain rfl rfl rfl (w_aidx 0 rfl Try.underlying87 Try.sizeOf179 (ev_tmp rfl) rfl (ev_tmp rfl) (by omega) (by simp only [List.length_append, List.length_map, marks_len, List.length_cons, List.length_drop]; omega)) ?_
    refine sq_plain rfl rfl rfl (w_fldX 0 rfl Try.underlying179 rfl Try.sizeOf9 (ev_tmp rfl) rfl rfl (app_get (by simp [marks_len]))) ?_
    refine sq_storeXA 0 rfl rfl rfl (ev_tmp rfl) (ev_tmp rfl) (as_str _) rfl Try.sizeOf9 (by simp [marks_len]) rfl ?_
    refine sq_nil ?_
    refine awp_seq ?_
    refine awp_region ?_
    refine sq_plain rfl rfl rfl (w_move rfl (ev_tmp rfl)) ?_
    refine sq_plain rfl rfl rfl (w_addi rfl (ev_tmp rfl) ev_ci (by first | omega | ((try simp only [List.length_map, List.length_take, List.length_cons, List.length_nil, chunks_len, szR] at *); omega) | (have hc2 := hc; simp only [Bool.and_eq_true, Bool.or_eq_true, Bool.or_eq_false_iff, Bool.and_eq_false_iff, Bool.not_eq_true', Bool.not_eq_false', decide_eq_true_eq, decide_eq_false_iff_not, beq_iff_eq, bne_iff_ne, List.length_map, List.length_take] at hc2; omega))) ?_
    refine sq_plain rfl rfl rfl (w_assign rfl (ev_tmp rfl)) ?_
    refine sq_nil ?_
    refine awp_seq ?_
    refine awp_region ?_
    refine sq_plain rfl rfl rfl (w_move rfl (ev_tmp rfl)) ?_
    refine sq_plain rfl rfl rfl (w_move rfl (ev_tmp rfl)) ?_
    refine sq_plain rfl rfl rfl (w_move rfl (ev_tmp rfl)) ?_
    refine sq_plain rfl rfl rfl (w_rem rfl (ev_tmp rfl) ev_ci (by first | omega | ((try simp only [List.length_map, List.length_take, List.length_cons, List.length_nil, chunks_len, szR] at *); omega) | (have hc2 := hc; simp only [Bool.and_eq_true, Bool.or_eq_true, Bool.or_eq_false_iff, Bool.and_eq_false_iff, Bool.not_eq_true', Bool.not_eq_false', decide_eq_true_eq, decide_eq_false_iff_not, beq_iff_eq, bne_iff_ne, List.length_map, List.length_take] at hc2; omega))) ?_
    refine sq_plain rfl rfl rfl (w_eql rfl (ev_tmp rfl) ev_ci) ?_
    refine sq_plain rfl rfl rfl (w_aidx 0 rfl Try.underlying87 Try.sizeOf179 (ev_tmp rfl) rfl (ev_tmp rfl) (by omega) (by simp only [List.length_append, List.length_map, marks_len, List.length_cons, List.length_drop]; omega)) ?_
    refine sq_plain rfl rfl rfl (w_fldX 0 rfl Try.underlying179 rfl Try.sizeOf4 (ev_tmp rfl) rfl rfl (app_get (by simp [marks_len]))) ?_
    refine sq_storeXA 0 rfl rfl rfl (ev_tmp rfl) (ev_tmp rfl) (as_bool _) rfl Try.sizeOf4 (by simp [marks_len]) rfl ?_
    refine sq_nil ?_
    refine awp_region ?_
    refine sq_plain rfl rfl rfl (w_move rfl (ev_tmp rfl)) ?_
    refine sq_plain rfl rfl rfl (w_addi rfl (ev_tmp rfl) ev_ci (by first | omega | ((try simp only [List.length_map, List.length_take, List.length_cons, List.length_nil, chunks_len, szR] at *); omega) | (have hc2 := hc; simp only [Bool.and_eq_true, Bool.or_eq_true, Bool.or_eq_false_iff, Bool.and_eq_false_iff, Bool.not_eq_true', Bool.not_eq_false', decide_eq_true_eq, decide_eq_false_iff_not, beq_iff_eq, bne_iff_ne, List.length_map, List.length_take] at hc2; omega))) ?_
    refine sq_plain rfl rfl rfl (w_assign rfl (ev_tmp rfl)) ?_
    refine sq_nil ?_
    refine awp_region ?_
    refine sq_plain rfl rfl rfl (w_move rfl (ev_tmp rfl)) ?_
    refine sq_plain rfl rfl rfl (w_addi rfl (ev_tmp rfl) ev_ci (by first | omega | ((try simp only [List.length_map, List.length_take, List.length_cons, List.length_nil, chunks_len, szR] at *); omega) | (have hc2 := hc; simp only [Bool.and_eq_true, Bool.or_eq_true, Bool.or_eq_false_iff, Bool.and_eq_false_iff, Bool.not_eq_true', Bool.not_eq_false', decide_eq_true_eq, decide_eq_false_iff_not, beq_iff_eq, bne_iff_ne, List.length_map, List.length_take] at hc2; omega))) ?_
    refine sq_plain rfl rfl rfl (w_assign rfl (ev_tmp rfl)) ?_
    refine sq_nil ?_
    refine round_end2 i c (i + 1) (c + 1 + 1 + 1 + 1 + 1) ?_ ?_ (le_eq (by exact congrArg (fun z => [Own.arr v 179 5 z]) (marks_step (by first | (rw [← hinv.2]; done) | (rw [← hinv.2]; rfl)))) ⟨rfl, rfl, rfl, rfl, trivial⟩)
    · exact ⟨by omega, by omega⟩
    · omega
  · intro h9
    have k9 := of_decide_eq_false h9; try simp only [List.length_map] at k9
    simp only [List.length_append, List.length_map, marks_len, List.length_drop] at k9
    have hge : i = l.length := by omega
    subst hge
    simp only [List.drop_length, List.map_nil, List.append_nil]
    refine awp_exit ?_
    refine awp_seq ?_
    refine awp_region ?_
    refine sq_plain rfl rfl rfl (w_move rfl (ev_tmp rfl)) ?_
    refine sq_plain rfl rfl rfl (w_assign rfl (ev_tmp rfl)) ?_
    refine sq_nil ?_
    refine awp_ret ?_
    exact retG [0] () (trivial) rfl (by rfl) (resR rfl (rv_tmp' rfl (by exact congrArg AV.int (by omega))))
def TRec.ow (c : TRec) (x : Value × Value) : List Own := [.arr x.1 9 1 (c.Reads.map (fun x => [AV.str x])), .arr x.2 65 3 (c.Writes.map TWrite.cs)]
theorem TRec.lc (c : TRec) (x : Value × Value) : LendC (TRec.ow c x) (TRec.ocs c x) c.cs := (lc_cons lt_refl (lc_cons lt_refl (lc_cons lt_refl (lc_cons lt_refl (lc_cons (lt_arr (List.mem_of_getElem? (i := 0) rfl) le_refl_e) (lc_cons (lt_arr (List.mem_of_getElem? (i := 1) rfl) le_refl_e) (lc_cons lt_refl lc_nil)))))))
def TPlaces.ow (c : TPlaces) (x : Value × Value) : List Own := [.arr x.1 9 1 (c.Cuts.map (fun x => [AV.str x])), .arr x.2 3 1 (c.Groups.map (fun x => [AV.int x]))]
theorem TPlaces.lc (c : TPlaces) (x : Value × Value) : LendC (TPlaces.ow c x) (TPlaces.ocs c x) c.cs := (lc_cons lt_refl (lc_cons (lt_arr (List.mem_of_getElem? (i := 0) rfl) le_refl_e) (lc_cons (lt_arr (List.mem_of_getElem? (i := 1) rfl) le_refl_e) lc_nil)))
def TMove.ow (c : TMove) (x : Value × Value) : List Own := [.arr x.1 65 3 (c.From.map TWrite.cs), .arr x.2 65 3 (c.To.map TWrite.cs)]
theorem TMove.lc (c : TMove) (x : Value × Value) : LendC (TMove.ow c x) (TMove.ocs c x) c.cs := (lc_cons lt_refl (lc_cons lt_refl (lc_cons lt_refl (lc_cons (lt_arr (List.mem_of_getElem? (i := 0) rfl) le_refl_e) (lc_cons (lt_arr (List.mem_of_getElem? (i := 1) rfl) le_refl_e) (lc_cons lt_refl (lc_cons lt_refl lc_nil)))))))
end Go.Proofs.Yteliahajeokciaa
