/- Walks: copies of the call's own; marks and their reading. -/
import Derived.Test.YtinakggafbidcaaMarkM
import Derived.Test.YtinakggafbidcaaTypesW
set_option linter.unusedVariables false
set_option linter.unusedSimpArgs false
set_option maxRecDepth 100000
namespace Go.Proofs.Ytinakggafbidcaa
open Go Go.AV Go.M
attribute [local irreducible] OpW OpA OpS AWP FSpec ESpec GSpec OpE RetOk RetOkG RvDen Le Ev GuardIs
theorem markText_spec (k : Int) (h : k ≤ 4611686018427387904) : FSpec Try.prog 61 [AV.int k] (AV.str (markText k)) := by
  refine spec_of_awp Try.func61 rfl Try.ntmps61 rfl ?_
  refine awp_seq ?_
  refine awp_region ?_
  refine sq_plain rfl rfl rfl (w_assign rfl (ev_cs' (l := []) rfl)) ?_
  refine sq_nil ?_
  refine awp_seq ?_
  refine awp_seq ?_
  refine awp_region ?_
  refine sq_plain rfl rfl rfl (w_move rfl (ev_tmp rfl)) ?_
  refine sq_plain rfl rfl rfl (w_leq rfl (ev_tmp rfl) ev_ci) ?_
  refine sq_nil ?_
  refine awp_cond (ev_tmp rfl) ?_ ?_
  · intro h5
    have k5 := of_decide_eq_true h5; try simp only [List.length_map] at k5
    have he : markText k = [109, 48] := by unfold markText; rw [if_pos k5]
    rw [he]
    refine awp_seq ?_
    refine awp_region ?_
    refine sq_plain rfl rfl rfl (w_assign rfl (ev_cs' (l := [109, 48]) rfl)) ?_
    refine sq_nil ?_
    refine awp_ret ?_
    exact retR rfl (rv_tmp' rfl (by first | rfl | exact congrArg AV.str (by rw [hz]; rfl)))
  · intro h5
    have k5 := of_decide_eq_false h5; try simp only [List.length_map] at k5
    obtain ⟨m, rfl⟩ : ∃ m : Nat, k = (m : Int) := ⟨k.toNat, by omega⟩
    have he : markText (m : Int) = 109 :: digs m [] := by unfold markText; rw [if_neg k5]; rfl
    rw [he]
    refine awp_skip ?_
    refine awp_seq ?_
    refine awp_region ?_
    refine sq_plain rfl rfl rfl (w_assign rfl (ev_cs' (l := []) rfl)) ?_
    refine sq_nil ?_
    refine awp_seq ?_
    refine awp_block ?_
    refine awp_loop_i2 [(2, _)] _ (fun (j : Nat) (out : Str) => digs m [] = digs j out ∧ out.length + j ≤ m) (fun (j : Nat) (out : Str) => []) (fun (j : Nat) (out : Str) => [(0, AV.int j), (3, AV.str out)]) (fun (j : Nat) (out : Str) => j) (m) ([]) ?_ (le_env ⟨rfl, rfl, rfl, trivial⟩) ?_
    · exact ⟨rfl, by simp⟩
    intro j out hinv
    refine awp_seq ?_
    refine awp_seq ?_
    refine awp_region ?_
    refine sq_plain rfl rfl rfl (w_move rfl (ev_tmp rfl)) ?_
    refine sq_plain rfl rfl rfl (w_gtr rfl (ev_tmp rfl) ev_ci) ?_
    refine sq_nil ?_
    refine awp_cond (ev_tmp rfl) ?_ ?_
    · intro h7
      have k7 := of_decide_eq_true h7; try simp only [List.length_map] at k7
      refine awp_skip ?_
      refine awp_block ?_
      refine awp_seq ?_
      refine awp_region ?_
      refine sq_plain rfl rfl rfl (w_move rfl (ev_tmp rfl)) ?_
      refine sq_plain rfl rfl rfl (w_rem rfl (ev_tmp rfl) ev_ci (by decide)) ?_
      refine sq_plain rfl rfl rfl (w_addi rfl ev_ci (ev_tmp rfl) (by rw [tmod10]; omega)) ?_
      refine sq_plain rfl rfl rfl (w_conv rfl (by kernel_rfl) Try.underlying5 (ev_tmp rfl)) ?_
      rw [mk_byte]
      refine sq_plain rfl rfl rfl (w_bslice rfl Try.underlying56 Try.sizeOf5 Try.zeroValue5 rfl rfl rfl rfl (bp_cons (ev_tmp rfl) (as_ik _ _) bp_nil) rfl rfl) ?_
      refine sq_plain rfl rfl rfl (w_convBS (l := [UInt8.ofNat (48 + j % 10)]) rfl Try.underlying56 Try.underlying5 Try.underlying9 (ev_tmp rfl)) ?_
      refine sq_plain rfl rfl rfl (w_move rfl (ev_tmp rfl)) ?_
      refine sq_plain rfl rfl rfl (w_cat rfl (ev_tmp rfl) (ev_tmp rfl) (by first | omega | ((try simp only [List.length_map, List.length_take, List.length_cons, List.length_nil, chunks_len, szR] at *); omega) | (have hc2 := hc; simp only [Bool.and_eq_true, Bool.or_eq_true, Bool.or_eq_false_iff, Bool.and_eq_false_iff, Bool.not_eq_true', Bool.not_eq_false', decide_eq_true_eq, decide_eq_false_iff_not, beq_iff_eq, bne_iff_ne, List.length_map, List.length_take] at hc2; omega))) ?_
      refine sq_plain rfl rfl rfl (w_assign rfl (ev_tmp rfl)) ?_
      refine sq_nil ?_
      refine awp_region ?_
      refine sq_plain rfl rfl rfl (w_move rfl (ev_tmp rfl)) ?_
      refine sq_plain rfl rfl rfl (w_quo rfl (ev_tmp rfl) ev_ci (by decide)) ?_
      rw [mk_quo (k := j) (by omega)]
      refine sq_plain rfl rfl rfl (w_assign rfl (ev_tmp rfl)) ?_
      refine sq_nil ?_
      refine blockN ?_
      refine round_end2 j out (j / 10) (UInt8.ofNat (48 + j % 10) :: out) ?_ ?_ (le_env ⟨rfl, rfl, rfl, trivial⟩)
      · exact ⟨by rw [hinv.1, digs_pos (by omega)], by simp only [List.length_cons]; omega⟩
      · omega
    · intro h7
      have k7 := of_decide_eq_false h7; try simp only [List.length_map] at k7
      have hz : digs m [] = out := by rw [hinv.1, digs_zero (by omega)]
      refine awp_exit ?_
      refine awp_seq ?_
      refine awp_region ?_
      refine sq_plain rfl rfl rfl (w_move rfl (ev_tmp rfl)) ?_
      refine sq_plain rfl rfl rfl (w_cat rfl (ev_cs' (l := [109]) rfl) (ev_tmp rfl) (by first | omega | ((try simp only [List.length_map, List.length_take, List.length_cons, List.length_nil, chunks_len, szR] at *); omega) | (have hc2 := hc; simp only [Bool.and_eq_true, Bool.or_eq_true, Bool.or_eq_false_iff, Bool.and_eq_false_iff, Bool.not_eq_true', Bool.not_eq_false', decide_eq_true_eq, decide_eq_false_iff_not, beq_iff_eq, bne_iff_ne, List.length_map, List.length_take] at hc2; omega))) ?_
      refine sq_plain rfl rfl rfl (w_assign rfl (ev_tmp rfl)) ?_
      refine sq_nil ?_
      refine awp_ret ?_
      exact retR rfl (rv_tmp' rfl (by first | rfl | exact congrArg AV.str (by rw [hz]; rfl)))
theorem toWriteS_own (l : List TWrite) (hs : sizeL TWrite.size l ≤ 1048576) : GSpec Try.prog 51 [AV.list 3 (l.map TWrite.cs)] [] (fun _ : Value => True) (fun v => [.arr v 37 3 (l.map TWrite.cs)]) (fun v => AV.is v) := by
  have hsl : l.length ≤ 1048576 := Nat.le_trans sizeL_len hs
  refine gspec_of_awp Try.func51 rfl Try.ntmps51 rfl ?_
  refine awp_seq ?_
  refine awp_region ?_
  refine sq_plain rfl rfl rfl (w_assign rfl ev_cnils) ?_
  refine sq_nil ?_
  refine awp_seq ?_
  refine awp_region ?_
  refine sq_plain rfl rfl rfl (w_move rfl (ev_tmp rfl)) ?_
  refine sq_plain rfl rfl rfl (w_llen rfl Try.underlying22 (ev_tmp rfl)) ?_
  refine sq_make (by' := 40) rfl rfl rfl rfl Try.underlying31 Try.type37 rfl rfl rfl rfl rfl rfl (ev_tmp rfl) (ev_tmp rfl) (by simp only [List.length_map]; omega) (by simp only [List.length_map]; omega) ?_
  intro v7
  refine sq_plain rfl rfl rfl (w_assign rfl (ev_tmp rfl)) ?_
  refine sq_nil ?_
  refine awp_seq ?_
  refine awp_seq ?_
  refine awp_region ?_
  refine sq_plain rfl rfl rfl (w_assign rfl ev_ci) ?_
  refine sq_nil ?_
  refine awp_block ?_
  refine awp_loop_i [(0, _), (2, _), (3, _)] _ (fun (i : Nat) => i ≤ l.length) (fun (i : Nat) => [.arr v7 37 3 ((l.take i).map TWrite.cs ++ List.replicate (l.length - i) [AV.str [], AV.str [], AV.bool false])]) (fun (i : Nat) => [(4, AV.int i)]) (fun (i : Nat) => l.length - i) (0) ?_ (le_eq (by simp only [List.length_map]; rfl) ⟨rfl, rfl, rfl, rfl, trivial⟩) ?_
  · exact Nat.zero_le _
  intro i hinv
  refine awp_seq ?_
  refine awp_seq ?_
  refine awp_region ?_
  refine sq_plain rfl rfl rfl (w_move rfl (ev_tmp rfl)) ?_
  refine sq_plain rfl rfl rfl (w_move rfl (ev_tmp rfl)) ?_
  refine sq_plain rfl rfl rfl (w_llen rfl Try.underlying22 (ev_tmp rfl)) ?_
  refine sq_plain rfl rfl rfl (w_lss rfl (ev_tmp rfl) (ev_tmp rfl)) ?_
  refine sq_nil ?_
  refine awp_cond (ev_tmp rfl) ?_ ?_
  · intro h11
    have k11 := of_decide_eq_true h11; try simp only [List.length_map] at k11
    have hlt : i < l.length := by omega
    obtain ⟨x, hx⟩ := get_some hlt
    have hsx : TWrite.size x ≤ 1048576 := Nat.le_trans (sizeL_get hx) hs
    refine awp_skip ?_
    refine awp_seq ?_
    refine awp_block ?_
    refine awp_region ?_
    refine sq_plain rfl rfl rfl (w_move rfl (ev_tmp rfl)) ?_
    refine sq_plain rfl rfl rfl (w_move rfl (ev_tmp rfl)) ?_
    refine sq_plain rfl rfl rfl (w_move rfl (ev_tmp rfl)) ?_
    refine sq_plain rfl rfl rfl (w_move rfl (ev_tmp rfl)) ?_
    refine sq_plain rfl rfl rfl (w_idx rfl Try.underlying22 Try.sizeOf26 (ev_tmp rfl) (ev_tmp rfl) (by omega) (by simp only [Int.toNat_natCast, List.getElem?_map, hx, Option.map_some]; try rfl)) ?_
    refine sq_plain rfl rfl rfl (w_loadE rfl (ev_tmp rfl) Try.isAgg26 Try.sizeOf26) ?_
    refine sq_plain rfl rfl rfl (w_call rfl Try.call52 rfl (toWrite_spec _ (by first | assumption | omega | (simp only [] at *; omega))) (evl_cons (ev_tmp rfl) evl_nil)) ?_
    refine sq_plain rfl rfl rfl (w_aidx 0 rfl Try.underlying31 Try.sizeOf37 (ev_tmp rfl) rfl (ev_tmp rfl) (by omega) (by rw [fill_len hinv]; omega)) ?_
    refine sq_storeA 0 rfl rfl rfl (ev_tmp rfl) (ev_tmp rfl) (as_agg _) rfl Try.sizeOf37 rfl (by rw [fill_len hinv]; omega) ?_
    refine sq_nil ?_
    refine awp_region ?_
    refine sq_plain rfl rfl rfl (w_move rfl (ev_tmp rfl)) ?_
    refine sq_plain rfl rfl rfl (w_addi rfl (ev_tmp rfl) ev_ci (by first | omega | ((try simp only [List.length_map, List.length_take, List.length_cons, List.length_nil, chunks_len, szR] at *); omega) | (have hc2 := hc; simp only [Bool.and_eq_true, Bool.or_eq_true, Bool.or_eq_false_iff, Bool.and_eq_false_iff, Bool.not_eq_true', Bool.not_eq_false', decide_eq_true_eq, decide_eq_false_iff_not, beq_iff_eq, bne_iff_ne, List.length_map, List.length_take] at hc2; omega))) ?_
    refine sq_plain rfl rfl rfl (w_assign rfl (ev_tmp rfl)) ?_
    refine sq_nil ?_
    refine round_end i (i + 1) ?_ ?_ (le_eq (by exact congrArg (fun z => [Own.arr v7 37 3 z]) (fill_step hx)) ⟨rfl, rfl, rfl, rfl, trivial⟩)
    · omega
    · omega
  · intro h11
    have k11 := of_decide_eq_false h11; try simp only [List.length_map] at k11
    have hge : l.length ≤ i := by omega
    rw [fill_done hge]
    refine awp_exit ?_
    refine awp_seq ?_
    refine awp_region ?_
    refine sq_plain rfl rfl rfl (w_move rfl (ev_tmp rfl)) ?_
    refine sq_plain rfl rfl rfl (w_assign rfl (ev_tmp rfl)) ?_
    refine sq_nil ?_
    refine awp_ret ?_
    exact retG [0] v7 (trivial) rfl (by rfl) (resR rfl (rv_tmp' rfl (by first | rfl | (refine congrArg AV.bool ?_; simp_all; done))))
theorem markWriteS_spec (v : Value) (l : List TWrite) (k : Int) (h : 0 ≤ k ∧ k + 3 * l.length ≤ 4611686018427387904) : GSpec Try.prog 56 [AV.is v, AV.int k] [.arr v 37 3 (l.map TWrite.cs)] (fun _ : Unit => True) (fun _ => [.arr v 37 3 ((marks mkWrite 3 l.length k).map TWrite.cs)]) (fun _ => AV.int (k + 3 * l.length)) := by
  refine gspec_of_awp Try.func56 rfl Try.ntmps56 rfl ?_
  refine awp_seq ?_
  refine awp_region ?_
  refine sq_plain rfl rfl rfl (w_assign rfl ev_ci) ?_
  refine sq_nil ?_
  refine awp_seq ?_
  refine awp_seq ?_
  refine awp_region ?_
  refine sq_plain rfl rfl rfl (w_assign rfl ev_ci) ?_
  refine sq_nil ?_
  refine awp_block ?_
  refine awp_loop_i2 [(0, _), (4, _)] _ (fun (i : Nat) (c : Int) => i ≤ l.length ∧ c = k + 3 * i) (fun (i : Nat) (c : Int) => [.arr v 37 3 ((marks mkWrite 3 i k).map TWrite.cs ++ (l.drop i).map TWrite.cs)]) (fun (i : Nat) (c : Int) => [(1, AV.int c), (5, AV.int i)]) (fun (i : Nat) (c : Int) => l.length - i) (0) (k) ?_ (le_eq (by simp only [marks, List.map_nil, List.nil_append, List.drop_zero]; rfl) ⟨rfl, rfl, rfl, rfl, trivial⟩) ?_
  · exact ⟨Nat.zero_le _, by simp⟩
  intro i c hinv
  refine awp_seq ?_
  refine awp_seq ?_
  refine awp_region ?_
  refine sq_plain rfl rfl rfl (w_move rfl (ev_tmp rfl)) ?_
  refine sq_plain rfl rfl rfl (w_move rfl (ev_tmp rfl)) ?_
  refine sq_plain rfl rfl rfl (w_alen 0 rfl Try.underlying31 (ev_tmp rfl) rfl) ?_
  refine sq_plain rfl rfl rfl (w_lss rfl (ev_tmp rfl) (ev_tmp rfl)) ?_
  refine sq_nil ?_
  refine awp_cond (ev_tmp rfl) ?_ ?_
  · intro h9
    have k9 := of_decide_eq_true h9; try simp only [List.length_map] at k9
    simp only [List.length_append, List.length_map, marks_len, List.length_drop] at k9
    have hlt : i < l.length := by omega
    obtain ⟨x, hx⟩ := get_some hlt
    rw [drop_get hx]
    refine awp_skip ?_
    refine awp_seq ?_
    refine awp_block ?_
    refine awp_seq ?_
    refine awp_region ?_
    refine sq_plain rfl rfl rfl (w_move rfl (ev_tmp rfl)) ?_
    refine sq_plain rfl rfl rfl (w_move rfl (ev_tmp rfl)) ?_
    refine sq_plain rfl rfl rfl (w_move rfl (ev_tmp rfl)) ?_
    refine sq_plain rfl rfl rfl (w_call rfl Try.call61 rfl (markText_spec _ (by omega)) (evl_cons (ev_tmp rfl) evl_nil)) ?_
    refine sq_plain rfl rfl rfl (w_aidx 0 rfl Try.underlying31 Try.sizeOf37 (ev_tmp rfl) rfl (ev_tmp rfl) (by omega) (by simp only [List.length_append, List.length_map, marks_len, List.length_cons, List.length_drop]; omega)) ?_
    refine sq_plain rfl rfl rfl (w_fldX 0 rfl Try.underlying37 rfl Try.sizeOf9 (ev_tmp rfl) rfl rfl (app_get (by simp [marks_len]))) ?_
    refine sq_storeXA 0 rfl rfl rfl (ev_tmp rfl) (ev_tmp rfl) (as_str _) rfl Try.sizeOf9 (by simp [marks_len]) rfl ?_
    refine sq_nil ?_
    refine awp_seq ?_
    refine awp_region ?_
    refine sq_plain rfl rfl rfl (w_move rfl (ev_tmp rfl)) ?_
    refine sq_plain rfl rfl rfl (w_addi rfl (ev_tmp rfl) ev_ci (by first | omega | ((try simp only [List.length_map, List.length_take, List.length_cons, List.length_nil, chunks_len, szR] at *); omega) | (have hc2 := hc; simp only [Bool.and_eq_true, Bool.or_eq_true, Bool.or_eq_false_iff, Bool.and_eq_false_iff, Bool.not_eq_true', Bool.not_eq_false', decide_eq_true_eq, decide_eq_false_iff_not, beq_iff_eq, bne_iff_ne, List.length_map, List.length_take] at hc2; omega))) ?_
    refine sq_plain rfl rfl rfl (w_assign rfl (ev_tmp rfl)) ?_
    refine sq_nil ?_
    refine awp_seq ?_
    refine awp_region ?_
    refine sq_plain rfl rfl rfl (w_move rfl (ev_tmp rfl)) ?_
    refine sq_plain rfl rfl rfl (w_move rfl (ev_tmp rfl)) ?_
    refine sq_plain rfl rfl rfl (w_move rfl (ev_tmp rfl)) ?_
    refine sq_plain rfl rfl rfl (w_call rfl Try.call61 rfl (markText_spec _ (by omega)) (evl_cons (ev_tmp rfl) evl_nil)) ?_
    refine sq_plain rfl rfl rfl (w_aidx 0 rfl Try.underlying31 Try.sizeOf37 (ev_tmp rfl) rfl (ev_tmp rfl) (by omega) (by simp only [List.length_append, List.length_map, marks_len, List.length_cons, List.length_drop]; omega)) ?_
    refine sq_plain rfl rfl rfl (w_fldX 0 rfl Try.underlying37 rfl Try.sizeOf9 (ev_tmp rfl) rfl rfl (app_get (by simp [marks_len]))) ?_
    refine sq_storeXA 0 rfl rfl rfl (ev_tmp rfl) (ev_tmp rfl) (as_str _) rfl Try.sizeOf9 (by simp [marks_len]) rfl ?_
    refine sq_nil ?_
    refine awp_seq ?_
    refine awp_region ?_
    refine sq_plain rfl rfl rfl (w_move rfl (ev_tmp rfl)) ?_
    refine sq_plain rfl rfl rfl (w_addi rfl (ev_tmp rfl) ev_ci (by first | omega | ((try simp only [List.length_map, List.length_take, List.length_cons, List.length_nil, chunks_len, szR] at *); omega) | (have hc2 := hc; simp only [Bool.and_eq_true, Bool.or_eq_true, Bool.or_eq_false_iff, Bool.and_eq_false_iff, Bool.not_eq_true', Bool.not_eq_false', decide_eq_true_eq, decide_eq_false_iff_not, beq_iff_eq, bne_iff_ne, List.length_map, List.length_take] at hc2; omega))) ?_
    refine sq_plain rfl rfl rfl (w_assign rfl (ev_tmp rfl)) ?_
    refine sq_nil ?_
    refine awp_seq ?_
    refine awp_region ?_
    refine sq_plain rfl rfl rfl (w_move rfl (ev_tmp rfl)) ?_
    refine sq_plain rfl rfl rfl (w_move rfl (ev_tmp rfl)) ?_
    refine sq_plain rfl rfl rfl (w_move rfl (ev_tmp rfl)) ?_
    refine sq_plain rfl rfl rfl (w_rem rfl (ev_tmp rfl) ev_ci (by first | omega | ((try simp only [List.length_map, List.length_take, List.length_cons, List.length_nil, chunks_len, szR] at *); omega) | (have hc2 := hc; simp only [Bool.and_eq_true, Bool.or_eq_true, Bool.or_eq_false_iff, Bool.and_eq_false_iff, Bool.not_eq_true', Bool.not_eq_false', decide_eq_true_eq, decide_eq_false_iff_not, beq_iff_eq, bne_iff_ne, List.length_map, List.length_take] at hc2; omega))) ?_
    refine sq_plain rfl rfl rfl (w_eql rfl (ev_tmp rfl) ev_ci) ?_
    refine sq_plain rfl rfl rfl (w_aidx 0 rfl Try.underlying31 Try.sizeOf37 (ev_tmp rfl) rfl (ev_tmp rfl) (by omega) (by simp only [List.length_append, List.length_map, marks_len, List.length_cons, List.length_drop]; omega)) ?_
    refine sq_plain rfl rfl rfl (w_fldX 0 rfl Try.underlying37 rfl Try.sizeOf4 (ev_tmp rfl) rfl rfl (app_get (by simp [marks_len]))) ?_
    refine sq_storeXA 0 rfl rfl rfl (ev_tmp rfl) (ev_tmp rfl) (as_bool _) rfl Try.sizeOf4 (by simp [marks_len]) rfl ?_
    refine sq_nil ?_
    refine awp_region ?_
    refine sq_plain rfl rfl rfl (w_move rfl (ev_tmp rfl)) ?_
    refine sq_plain rfl rfl rfl (w_addi rfl (ev_tmp rfl) ev_ci (by first | omega | ((try simp only [List.length_map, List.length_take, List.length_cons, List.length_nil, chunks_len, szR] at *); omega) | (have hc2 := hc; simp only [Bool.and_eq_true, Bool.or_eq_true, Bool.or_eq_false_iff, Bool.and_eq_false_iff, Bool.not_eq_true', Bool.not_eq_false', decide_eq_true_eq, decide_eq_false_iff_not, beq_iff_eq, bne_iff_ne, List.length_map, List.length_take] at hc2; omega))) ?_
    refine sq_plain rfl rfl rfl (w_assign rfl (ev_tmp rfl)) ?_
    refine sq_nil ?_
    refine awp_region ?_
    refine sq_plain rfl rfl rfl (w_move rfl (ev_tmp rfl)) ?_
    refine sq_plain rfl rfl rfl (w_addi rfl (ev_tmp rfl) ev_ci (by first | omega | ((try simp only [List.length_map, List.length_take, List.length_cons, List.length_nil, chunks_len, szR] at *); omega) | (have hc2 := hc; simp only [Bool.and_eq_true, Bool.or_eq_true, Bool.or_eq_false_iff, Bool.and_eq_false_iff, Bool.not_eq_true', Bool.not_eq_false', decide_eq_true_eq, decide_eq_false_iff_not, beq_iff_eq, bne_iff_ne, List.length_map, List.length_take] at hc2; omega))) ?_
    refine sq_plain rfl rfl rfl (w_assign rfl (ev_tmp rfl)) ?_
    refine sq_nil ?_
    refine round_end2 i c (i + 1) (c + 1 + 1 + 1) ?_ ?_ (le_eq (by exact congrArg (fun z => [Own.arr v 37 3 z]) (marks_step (by first | (rw [← hinv.2]; done) | (rw [← hinv.2]; rfl)))) ⟨rfl, rfl, rfl, rfl, trivial⟩)
    · exact ⟨by omega, by omega⟩
    · omega
  · intro h9
    have k9 := of_decide_eq_false h9; try simp only [List.length_map] at k9
    simp only [List.length_append, List.length_map, marks_len, List.length_drop] at k9
    have hge : i = l.length := by omega
    subst hge
    simp only [List.drop_length, List.map_nil, List.append_nil]
    refine awp_exit ?_
    refine awp_seq ?_
    refine awp_region ?_
    refine sq_plain rfl rfl rfl (w_move rfl (ev_tmp rfl)) ?_
    refine sq_plain rfl rfl rfl (w_assign rfl (ev_tmp rfl)) ?_
    refine sq_nil ?_
    refine awp_ret ?_
    exact retG [0] () (trivial) rfl (by rfl) (resR rfl (rv_tmp' rfl (by exact congrArg AV.int (by omega))))
theorem heldWriteS_spec (m : Nat) (k : Int) (h : 0 ≤ k ∧ k + 3 * m ≤ 4611686018427387904) : FSpec Try.prog 57 [AV.list 3 ((marks mkWrite 3 m k).map TWrite.cs), AV.int k] (AV.int (k + 3 * m)) := by
  refine spec_of_awp Try.func57 rfl Try.ntmps57 rfl ?_
  refine awp_seq ?_
  refine awp_region ?_
  refine sq_plain rfl rfl rfl (w_assign rfl ev_ci) ?_
  refine sq_nil ?_
  refine awp_seq ?_
  refine awp_seq ?_
  refine awp_region ?_
  refine sq_plain rfl rfl rfl (w_assign rfl ev_ci) ?_
  refine sq_nil ?_
  refine awp_block ?_
  refine awp_loop_i2 [(0, _)] _ (fun (i : Nat) (c : Int) => i ≤ m ∧ c = k + 3 * i) (fun (i : Nat) (c : Int) => []) (fun (i : Nat) (c : Int) => [(1, AV.int c), (5, AV.int i)]) (fun (i : Nat) (c : Int) => m - i) (0) (k) ?_ (le_env ⟨rfl, rfl, rfl, trivial⟩) ?_
  · exact ⟨Nat.zero_le _, by simp⟩
  intro i c hinv
  refine awp_seq ?_
  refine awp_seq ?_
  refine awp_region ?_
  refine sq_plain rfl rfl rfl (w_move rfl (ev_tmp rfl)) ?_
  refine sq_plain rfl rfl rfl (w_move rfl (ev_tmp rfl)) ?_
  refine sq_plain rfl rfl rfl (w_llen rfl Try.underlying31 (ev_tmp rfl)) ?_
  refine sq_plain rfl rfl rfl (w_lss rfl (ev_tmp rfl) (ev_tmp rfl)) ?_
  refine sq_nil ?_
  refine awp_cond (ev_tmp rfl) ?_ ?_
  · intro h9
    have k9 := of_decide_eq_true h9; try simp only [List.length_map] at k9
    simp only [List.length_map, marks_len] at k9
    have hlt : i < m := by omega
    have hx := marks_get mkWrite 3 m i k hlt
    rw [← hinv.2] at hx
    refine awp_skip ?_
    refine awp_seq ?_
    refine awp_block ?_
    refine awp_seq ?_
    refine awp_seq ?_
    refine awp_region_any (by kernel_rfl) (by kernel_rfl) rfl ?_
    refine ch_plain rfl rfl (w_move rfl (ev_tmp rfl)) ?_
    refine ch_plain rfl rfl (w_move rfl (ev_tmp rfl)) ?_
    refine ch_plain rfl rfl (w_idxm rfl Try.underlying31 Try.sizeOf37 (ev_tmp rfl) (ev_tmp rfl) hx (by first | omega | ((try simp only [List.length_map, List.length_take, List.length_cons, List.length_nil, chunks_len, szR] at *); omega) | (have hc2 := hc; simp only [Bool.and_eq_true, Bool.or_eq_true, Bool.or_eq_false_iff, Bool.and_eq_false_iff, Bool.not_eq_true', Bool.not_eq_false', decide_eq_true_eq, decide_eq_false_iff_not, beq_iff_eq, bne_iff_ne, List.length_map, List.length_take] at hc2; omega))) ?_
    refine ch_plain rfl rfl (w_fldE rfl Try.underlying37 rfl Try.sizeOf9 (ev_tmp rfl) rfl) ?_
    refine ch_plain rfl rfl (w_loadE1 rfl (ev_tmp rfl) Try.isAgg9 rfl) ?_
    refine ch_plain rfl rfl (w_move rfl (ev_tmp rfl)) ?_
    refine ch_plain rfl rfl (w_call rfl Try.call61 rfl (markText_spec _ (by omega)) (evl_cons (ev_tmp rfl) evl_nil)) ?_
    refine ch_plain rfl rfl (w_sneq rfl (ev_tmp rfl) (ev_tmp rfl)) ?_
    refine ch_nil ?_
    refine awp_cond (ev_tmp rfl) ?_ ?_
    · intro h19
      exfalso; simp [mkWrite, m3] at h19
    · intro h19
      refine awp_skip ?_
      refine awp_seq ?_
      refine awp_region ?_
      refine sq_plain rfl rfl rfl (w_move rfl (ev_tmp rfl)) ?_
      refine sq_plain rfl rfl rfl (w_addi rfl (ev_tmp rfl) ev_ci (by first | omega | ((try simp only [List.length_map, List.length_take, List.length_cons, List.length_nil, chunks_len, szR] at *); omega) | (have hc2 := hc; simp only [Bool.and_eq_true, Bool.or_eq_true, Bool.or_eq_false_iff, Bool.and_eq_false_iff, Bool.not_eq_true', Bool.not_eq_false', decide_eq_true_eq, decide_eq_false_iff_not, beq_iff_eq, bne_iff_ne, List.length_map, List.length_take] at hc2; omega))) ?_
      refine sq_plain rfl rfl rfl (w_assign rfl (ev_tmp rfl)) ?_
      refine sq_nil ?_
      refine awp_seq ?_
      refine awp_seq ?_
      refine awp_region_any (by kernel_rfl) (by kernel_rfl) rfl ?_
      refine ch_plain rfl rfl (w_move rfl (ev_tmp rfl)) ?_
      refine ch_plain rfl rfl (w_move rfl (ev_tmp rfl)) ?_
      refine ch_plain rfl rfl (w_idxm rfl Try.underlying31 Try.sizeOf37 (ev_tmp rfl) (ev_tmp rfl) hx (by first | omega | ((try simp only [List.length_map, List.length_take, List.length_cons, List.length_nil, chunks_len, szR] at *); omega) | (have hc2 := hc; simp only [Bool.and_eq_true, Bool.or_eq_true, Bool.or_eq_false_iff, Bool.and_eq_false_iff, Bool.not_eq_true', Bool.not_eq_false', decide_eq_true_eq, decide_eq_false_iff_not, beq_iff_eq, bne_iff_ne, List.length_map, List.length_take] at hc2; omega))) ?_
      refine ch_plain rfl rfl (w_fldE rfl Try.underlying37 rfl Try.sizeOf9 (ev_tmp rfl) rfl) ?_
      refine ch_plain rfl rfl (w_loadE1 rfl (ev_tmp rfl) Try.isAgg9 rfl) ?_
      refine ch_plain rfl rfl (w_move rfl (ev_tmp rfl)) ?_
      refine ch_plain rfl rfl (w_call rfl Try.call61 rfl (markText_spec _ (by omega)) (evl_cons (ev_tmp rfl) evl_nil)) ?_
      refine ch_plain rfl rfl (w_sneq rfl (ev_tmp rfl) (ev_tmp rfl)) ?_
      refine ch_nil ?_
      refine awp_cond (ev_tmp rfl) ?_ ?_
      · intro h29
        exfalso; simp [mkWrite, m3] at h29
      · intro h29
        refine awp_skip ?_
        refine awp_seq ?_
        refine awp_region ?_
        refine sq_plain rfl rfl rfl (w_move rfl (ev_tmp rfl)) ?_
        refine sq_plain rfl rfl rfl (w_addi rfl (ev_tmp rfl) ev_ci (by first | omega | ((try simp only [List.length_map, List.length_take, List.length_cons, List.length_nil, chunks_len, szR] at *); omega) | (have hc2 := hc; simp only [Bool.and_eq_true, Bool.or_eq_true, Bool.or_eq_false_iff, Bool.and_eq_false_iff, Bool.not_eq_true', Bool.not_eq_false', decide_eq_true_eq, decide_eq_false_iff_not, beq_iff_eq, bne_iff_ne, List.length_map, List.length_take] at hc2; omega))) ?_
        refine sq_plain rfl rfl rfl (w_assign rfl (ev_tmp rfl)) ?_
        refine sq_nil ?_
        refine awp_seq ?_
        refine awp_seq ?_
        refine awp_region ?_
        refine sq_plain rfl rfl rfl (w_move rfl (ev_tmp rfl)) ?_
        refine sq_plain rfl rfl rfl (w_move rfl (ev_tmp rfl)) ?_
        refine sq_plain rfl rfl rfl (w_idxm rfl Try.underlying31 Try.sizeOf37 (ev_tmp rfl) (ev_tmp rfl) hx (by first | omega | ((try simp only [List.length_map, List.length_take, List.length_cons, List.length_nil, chunks_len, szR] at *); omega) | (have hc2 := hc; simp only [Bool.and_eq_true, Bool.or_eq_true, Bool.or_eq_false_iff, Bool.and_eq_false_iff, Bool.not_eq_true', Bool.not_eq_false', decide_eq_true_eq, decide_eq_false_iff_not, beq_iff_eq, bne_iff_ne, List.length_map, List.length_take] at hc2; omega))) ?_
        refine sq_plain rfl rfl rfl (w_fldE rfl Try.underlying37 rfl Try.sizeOf4 (ev_tmp rfl) rfl) ?_
        refine sq_plain rfl rfl rfl (w_loadE1 rfl (ev_tmp rfl) Try.isAgg4 rfl) ?_
        refine sq_plain rfl rfl rfl (w_move rfl (ev_tmp rfl)) ?_
        refine sq_plain rfl rfl rfl (w_rem rfl (ev_tmp rfl) ev_ci (by first | omega | ((try simp only [List.length_map, List.length_take, List.length_cons, List.length_nil, chunks_len, szR] at *); omega) | (have hc2 := hc; simp only [Bool.and_eq_true, Bool.or_eq_true, Bool.or_eq_false_iff, Bool.and_eq_false_iff, Bool.not_eq_true', Bool.not_eq_false', decide_eq_true_eq, decide_eq_false_iff_not, beq_iff_eq, bne_iff_ne, List.length_map, List.length_take] at hc2; omega))) ?_
        refine sq_plain rfl rfl rfl (w_eql rfl (ev_tmp rfl) ev_ci) ?_
        refine sq_plain rfl rfl rfl (w_bneq rfl Try.underlying4 (ev_tmp rfl) (ev_tmp rfl)) ?_
        refine sq_nil ?_
        refine awp_cond (ev_tmp rfl) ?_ ?_
        · intro h40
          exfalso; simp [mkWrite, m3] at h40
        · intro h40
          refine awp_skip ?_
          refine awp_region ?_
          refine sq_plain rfl rfl rfl (w_move rfl (ev_tmp rfl)) ?_
          refine sq_plain rfl rfl rfl (w_addi rfl (ev_tmp rfl) ev_ci (by first | omega | ((try simp only [List.length_map, List.length_take, List.length_cons, List.length_nil, chunks_len, szR] at *); omega) | (have hc2 := hc; simp only [Bool.and_eq_true, Bool.or_eq_true, Bool.or_eq_false_iff, Bool.and_eq_false_iff, Bool.not_eq_true', Bool.not_eq_false', decide_eq_true_eq, decide_eq_false_iff_not, beq_iff_eq, bne_iff_ne, List.length_map, List.length_take] at hc2; omega))) ?_
          refine sq_plain rfl rfl rfl (w_assign rfl (ev_tmp rfl)) ?_
          refine sq_nil ?_
          refine awp_region ?_
          refine sq_plain rfl rfl rfl (w_move rfl (ev_tmp rfl)) ?_
          refine sq_plain rfl rfl rfl (w_addi rfl (ev_tmp rfl) ev_ci (by first | omega | ((try simp only [List.length_map, List.length_take, List.length_cons, List.length_nil, chunks_len, szR] at *); omega) | (have hc2 := hc; simp only [Bool.and_eq_true, Bool.or_eq_true, Bool.or_eq_false_iff, Bool.and_eq_false_iff, Bool.not_eq_true', Bool.not_eq_false', decide_eq_true_eq, decide_eq_false_iff_not, beq_iff_eq, bne_iff_ne, List.length_map, List.length_take] at hc2; omega))) ?_
          refine sq_plain rfl rfl rfl (w_assign rfl (ev_tmp rfl)) ?_
          refine sq_nil ?_
          refine round_end2 i c (i + 1) (c + 1 + 1 + 1) ?_ ?_ (le_env ⟨rfl, rfl, rfl, trivial⟩)
          · exact ⟨by omega, by omega⟩
          · omega
  · intro h9
    have k9 := of_decide_eq_false h9; try simp only [List.length_map] at k9
    simp only [List.length_map, marks_len] at k9
    refine awp_exit ?_
    refine awp_seq ?_
    refine awp_region ?_
    refine sq_plain rfl rfl rfl (w_move rfl (ev_tmp rfl)) ?_
    refine sq_plain rfl rfl rfl (w_assign rfl (ev_tmp rfl)) ?_
    refine sq_nil ?_
    refine awp_ret ?_
    exact retR rfl (rv_tmp' rfl (by exact congrArg AV.int (by omega)))
def TRec.ow (c : TRec) (x : Value × Value) : List Own := [.arr x.1 9 1 (c.Reads.map (fun x => [AV.str x])), .arr x.2 37 3 (c.Writes.map TWrite.cs)]
theorem TRec.lc (c : TRec) (x : Value × Value) : LendC (TRec.ow c x) (TRec.ocs c x) c.cs := (lc_cons lt_refl (lc_cons lt_refl (lc_cons lt_refl (lc_cons lt_refl (lc_cons (lt_arr (List.mem_of_getElem? (i := 0) rfl) le_refl_e) (lc_cons (lt_arr (List.mem_of_getElem? (i := 1) rfl) le_refl_e) (lc_cons lt_refl lc_nil)))))))
def TPlaces.ow (c : TPlaces) (x : Value × Value) : List Own := [.arr x.1 9 1 (c.Cuts.map (fun x => [AV.str x])), .arr x.2 3 1 (c.Groups.map (fun x => [AV.int x]))]
theorem TPlaces.lc (c : TPlaces) (x : Value × Value) : LendC (TPlaces.ow c x) (TPlaces.ocs c x) c.cs := (lc_cons lt_refl (lc_cons (lt_arr (List.mem_of_getElem? (i := 0) rfl) le_refl_e) (lc_cons (lt_arr (List.mem_of_getElem? (i := 1) rfl) le_refl_e) lc_nil)))
def TMove.ow (c : TMove) (x : Value × Value) : List Own := [.arr x.1 37 3 (c.From.map TWrite.cs), .arr x.2 37 3 (c.To.map TWrite.cs)]
theorem TMove.lc (c : TMove) (x : Value × Value) : LendC (TMove.ow c x) (TMove.ocs c x) c.cs := (lc_cons lt_refl (lc_cons lt_refl (lc_cons lt_refl (lc_cons (lt_arr (List.mem_of_getElem? (i := 0) rfl) le_refl_e) (lc_cons (lt_arr (List.mem_of_getElem? (i := 1) rfl) le_refl_e) (lc_cons lt_refl (lc_cons lt_refl lc_nil)))))))
theorem toMove_own (a : TMove) (hs : a.size ≤ 1048576) : GSpec Try.prog 11 [AV.agg a.cs] [] (fun _ : Value × Value => True) (fun x => TMove.ow a x) (fun x => AV.agg (TMove.ocs a x)) := by
  unfold TMove.size at hs
  refine gspec_of_awp Try.func11 rfl Try.ntmps11 rfl ?_
  refine awp_seq ?_
  refine awp_region ?_
  refine sq_box rfl rfl rfl rfl (ev_tmp rfl) ?_
  intro b1
  refine sq_alloc rfl rfl rfl rfl Try.zeroValue33 rfl ?_
  intro b2
  refine sq_nil ?_
  refine awp_seq ?_
  refine awp_region ?_
  refine sq_alloc rfl rfl rfl rfl Try.zeroValue33 rfl ?_
  intro b3
  refine sq_nil ?_
  refine awp_seq ?_
  refine awp_region ?_
  refine sq_plain rfl rfl rfl (w_fldBn 0 rfl Try.underlying24 rfl Try.sizeOf9 (ev_tmp rfl) rfl) ?_
  refine sq_plain rfl rfl rfl (w_loadB1 2 rfl (ev_tmp rfl) rfl Try.isAgg9 rfl) ?_
  refine sq_plain rfl rfl rfl (w_fldBn 0 rfl Try.underlying33 rfl Try.sizeOf9 (ev_tmp rfl) rfl) ?_
  refine sq_storeB1 0 rfl rfl rfl (ev_tmp rfl) (ev_tmp rfl) (as_str _) rfl Try.sizeOf9 rfl ?_
  refine sq_nil ?_
  refine awp_seq ?_
  refine awp_region ?_
  refine sq_plain rfl rfl rfl (w_fldBn 1 rfl Try.underlying24 rfl Try.sizeOf9 (ev_tmp rfl) rfl) ?_
  refine sq_plain rfl rfl rfl (w_loadB1 2 rfl (ev_tmp rfl) rfl Try.isAgg9 rfl) ?_
  refine sq_plain rfl rfl rfl (w_fldBn 1 rfl Try.underlying33 rfl Try.sizeOf9 (ev_tmp rfl) rfl) ?_
  refine sq_storeB1 0 rfl rfl rfl (ev_tmp rfl) (ev_tmp rfl) (as_str _) rfl Try.sizeOf9 rfl ?_
  refine sq_nil ?_
  refine awp_seq ?_
  refine awp_region ?_
  refine sq_plain rfl rfl rfl (w_fldBn 2 rfl Try.underlying24 rfl Try.sizeOf3 (ev_tmp rfl) rfl) ?_
  refine sq_plain rfl rfl rfl (w_loadB1 2 rfl (ev_tmp rfl) rfl Try.isAgg3 rfl) ?_
  refine sq_plain rfl rfl rfl (w_fldBn 2 rfl Try.underlying33 rfl Try.sizeOf3 (ev_tmp rfl) rfl) ?_
  refine sq_storeB1 0 rfl rfl rfl (ev_tmp rfl) (ev_tmp rfl) (as_ik _ _) rfl Try.sizeOf3 rfl ?_
  refine sq_nil ?_
  refine awp_seq ?_
  refine awp_region ?_
  refine sq_plain rfl rfl rfl (w_fldBn 3 rfl Try.underlying24 rfl Try.sizeOf22 (ev_tmp rfl) rfl) ?_
  refine sq_plain rfl rfl rfl (w_loadB1 2 rfl (ev_tmp rfl) rfl Try.isAgg22 rfl) ?_
  refine sq_callG [] rfl rfl rfl rfl Try.call51 rfl (toWriteS_own _ (by first | assumption | omega)) (evl_cons (ev_tmp rfl) evl_nil) rfl ?_
  intro x15 ok15
  refine sq_plain rfl rfl rfl (w_fldBn 3 rfl Try.underlying33 rfl Try.sizeOf31 (ev_tmp rfl) rfl) ?_
  refine sq_fact 0 rfl fun one_x15 => ?_
  refine sq_storeB1 1 rfl rfl rfl (ev_tmp rfl) (ev_tmp rfl) (as_is one_x15) rfl Try.sizeOf31 rfl ?_
  refine sq_nil ?_
  refine awp_seq ?_
  refine awp_region ?_
  refine sq_plain rfl rfl rfl (w_fldBn 4 rfl Try.underlying24 rfl Try.sizeOf22 (ev_tmp rfl) rfl) ?_
  refine sq_plain rfl rfl rfl (w_loadB1 3 rfl (ev_tmp rfl) rfl Try.isAgg22 rfl) ?_
  refine sq_callG [] rfl rfl rfl rfl Try.call51 rfl (toWriteS_own _ (by first | assumption | omega)) (evl_cons (ev_tmp rfl) evl_nil) rfl ?_
  intro x19 ok19
  refine sq_plain rfl rfl rfl (w_fldBn 4 rfl Try.underlying33 rfl Try.sizeOf31 (ev_tmp rfl) rfl) ?_
  refine sq_fact 0 rfl fun one_x19 => ?_
  refine sq_storeB1 2 rfl rfl rfl (ev_tmp rfl) (ev_tmp rfl) (as_is one_x19) rfl Try.sizeOf31 rfl ?_
  refine sq_nil ?_
  refine awp_seq ?_
  refine awp_region ?_
  refine sq_plain rfl rfl rfl (w_fldBn 5 rfl Try.underlying24 rfl Try.sizeOf9 (ev_tmp rfl) rfl) ?_
  refine sq_plain rfl rfl rfl (w_loadB1 4 rfl (ev_tmp rfl) rfl Try.isAgg9 rfl) ?_
  refine sq_plain rfl rfl rfl (w_fldBn 5 rfl Try.underlying33 rfl Try.sizeOf9 (ev_tmp rfl) rfl) ?_
  refine sq_storeB1 2 rfl rfl rfl (ev_tmp rfl) (ev_tmp rfl) (as_str _) rfl Try.sizeOf9 rfl ?_
  refine sq_nil ?_
  refine awp_seq ?_
  refine awp_region ?_
  refine sq_plain rfl rfl rfl (w_fldBn 6 rfl Try.underlying24 rfl Try.sizeOf4 (ev_tmp rfl) rfl) ?_
  refine sq_plain rfl rfl rfl (w_loadB1 4 rfl (ev_tmp rfl) rfl Try.isAgg4 rfl) ?_
  refine sq_plain rfl rfl rfl (w_fldBn 6 rfl Try.underlying33 rfl Try.sizeOf4 (ev_tmp rfl) rfl) ?_
  refine sq_storeB1 2 rfl rfl rfl (ev_tmp rfl) (ev_tmp rfl) (as_bool _) rfl Try.sizeOf4 rfl ?_
  refine sq_nil ?_
  refine awp_seq ?_
  refine awp_region ?_
  refine sq_plain rfl rfl rfl (w_loadA 2 rfl (ev_tmp rfl) rfl Try.isAgg33 Try.sizeOf33 rfl) ?_
  refine sq_storeB0 3 rfl rfl rfl (ev_tmp rfl) (ev_tmp rfl) (as_agg _) rfl Try.sizeOf33 rfl ?_
  refine sq_nil ?_
  refine awp_ret ?_
  exact retG [1, 0] (x15, x19) (trivial) rfl (by rfl) (resR rfl (rv_cell (ys := _) 3 rfl rfl Try.isAgg33 Try.sizeOf33 rfl))
theorem markMove_spec (c : TMove) (x : Value × Value) (k : Int) (h : 0 ≤ k ∧ c.markN k ≤ 4611686018427387904) : GSpec Try.prog 15 [AV.agg (TMove.ocs c x), AV.int k] (TMove.ow c x) (fun _ : Unit => True) (fun _ => TMove.ow (c.mark k) x) (fun _ => AV.int (c.markN k)) := by
  unfold TMove.markN at h
  refine gspec_of_awp Try.func15 rfl Try.ntmps15 rfl ?_
  refine awp_seq ?_
  refine awp_region ?_
  refine sq_box rfl rfl rfl rfl (ev_tmp rfl) ?_
  intro b2
  refine sq_plain rfl rfl rfl (w_assign rfl ev_ci) ?_
  refine sq_nil ?_
  refine awp_seq ?_
  refine awp_region ?_
  refine sq_plain rfl rfl rfl (w_fldBn 3 rfl Try.underlying33 rfl Try.sizeOf31 (ev_tmp rfl) rfl) ?_
  refine sq_plain rfl rfl rfl (w_loadB1 0 rfl (ev_tmp rfl) rfl Try.isAgg31 rfl) ?_
  refine sq_plain rfl rfl rfl (w_move rfl (ev_tmp rfl)) ?_
  refine sq_callG [1] rfl rfl rfl rfl Try.call56 rfl (markWriteS_spec _ _ _ (by first | assumption | first | omega | (refine ⟨by omega, ?_⟩; simp only [marks_len] at *; omega))) (evl_cons (ev_tmp rfl) (evl_cons (ev_tmp rfl) evl_nil)) rfl ?_
  intro x8 ok8
  refine sq_plain rfl rfl rfl (w_assign rfl (ev_tmp rfl)) ?_
  refine sq_nil ?_
  refine awp_seq ?_
  refine awp_region ?_
  refine sq_plain rfl rfl rfl (w_fldBn 4 rfl Try.underlying33 rfl Try.sizeOf31 (ev_tmp rfl) rfl) ?_
  refine sq_plain rfl rfl rfl (w_loadB1 1 rfl (ev_tmp rfl) rfl Try.isAgg31 rfl) ?_
  refine sq_plain rfl rfl rfl (w_move rfl (ev_tmp rfl)) ?_
  refine sq_callG [2] rfl rfl rfl rfl Try.call56 rfl (markWriteS_spec _ _ _ (by first | assumption | first | omega | (refine ⟨by omega, ?_⟩; simp only [marks_len] at *; omega))) (evl_cons (ev_tmp rfl) (evl_cons (ev_tmp rfl) evl_nil)) rfl ?_
  intro x12 ok12
  refine sq_plain rfl rfl rfl (w_assign rfl (ev_tmp rfl)) ?_
  refine sq_nil ?_
  refine awp_seq ?_
  refine awp_region ?_
  refine sq_plain rfl rfl rfl (w_move rfl (ev_tmp rfl)) ?_
  refine sq_plain rfl rfl rfl (w_assign rfl (ev_tmp rfl)) ?_
  refine sq_nil ?_
  refine awp_ret ?_
  exact retG [1, 0] () (trivial) rfl (by rfl) (resR rfl (rv_tmp' rfl (by rfl)))
theorem heldMove_spec (c : TMove) (k : Int) (h : 0 ≤ k ∧ c.markN k ≤ 4611686018427387904) : FSpec Try.prog 16 [AV.agg (c.mark k).cs, AV.int k] (AV.int (c.markN k)) := by
  unfold TMove.markN at h
  refine spec_of_awp Try.func16 rfl Try.ntmps16 rfl ?_
  refine awp_seq ?_
  refine awp_region ?_
  refine sq_box rfl rfl rfl rfl (ev_tmp rfl) ?_
  intro b2
  refine sq_plain rfl rfl rfl (w_assign rfl ev_ci) ?_
  refine sq_nil ?_
  refine awp_seq ?_
  refine awp_region ?_
  refine sq_plain rfl rfl rfl (w_fldBn 3 rfl Try.underlying33 rfl Try.sizeOf31 (ev_tmp rfl) rfl) ?_
  refine sq_plain rfl rfl rfl (w_loadB1 0 rfl (ev_tmp rfl) rfl Try.isAgg31 rfl) ?_
  refine sq_plain rfl rfl rfl (w_move rfl (ev_tmp rfl)) ?_
  refine sq_plain rfl rfl rfl (w_call rfl Try.call57 rfl (heldWriteS_spec _ _ (by first | assumption | first | omega | (refine ⟨by omega, ?_⟩; simp only [marks_len] at *; omega))) (evl_cons (ev_tmp rfl) (evl_cons (ev_tmp rfl) evl_nil))) ?_
  refine sq_plain rfl rfl rfl (w_assign rfl (ev_tmp rfl)) ?_
  refine sq_nil ?_
  refine awp_seq ?_
  refine awp_seq ?_
  refine awp_region ?_
  refine sq_plain rfl rfl rfl (w_move rfl (ev_tmp rfl)) ?_
  refine sq_plain rfl rfl rfl (w_lss rfl (ev_tmp rfl) ev_ci) ?_
  refine sq_nil ?_
  refine awp_cond (ev_tmp rfl) ?_ ?_
  · intro h10
    have k10 := of_decide_eq_true h10; try simp only [List.length_map] at k10
    exfalso; have := of_decide_eq_true h10; omega
  · intro h10
    have k10 := of_decide_eq_false h10; try simp only [List.length_map] at k10
    refine awp_skip ?_
    refine awp_seq ?_
    refine awp_region ?_
    refine sq_plain rfl rfl rfl (w_fldBn 4 rfl Try.underlying33 rfl Try.sizeOf31 (ev_tmp rfl) rfl) ?_
    refine sq_plain rfl rfl rfl (w_loadB1 0 rfl (ev_tmp rfl) rfl Try.isAgg31 rfl) ?_
    refine sq_plain rfl rfl rfl (w_move rfl (ev_tmp rfl)) ?_
    refine sq_plain rfl rfl rfl (w_call rfl Try.call57 rfl (heldWriteS_spec _ _ (by first | assumption | first | omega | (refine ⟨by omega, ?_⟩; simp only [marks_len] at *; omega))) (evl_cons (ev_tmp rfl) (evl_cons (ev_tmp rfl) evl_nil))) ?_
    refine sq_plain rfl rfl rfl (w_assign rfl (ev_tmp rfl)) ?_
    refine sq_nil ?_
    refine awp_seq ?_
    refine awp_seq ?_
    refine awp_region ?_
    refine sq_plain rfl rfl rfl (w_move rfl (ev_tmp rfl)) ?_
    refine sq_plain rfl rfl rfl (w_lss rfl (ev_tmp rfl) ev_ci) ?_
    refine sq_nil ?_
    refine awp_cond (ev_tmp rfl) ?_ ?_
    · intro h16
      have k16 := of_decide_eq_true h16; try simp only [List.length_map] at k16
      exfalso; have := of_decide_eq_true h16; omega
    · intro h16
      have k16 := of_decide_eq_false h16; try simp only [List.length_map] at k16
      refine awp_skip ?_
      refine awp_seq ?_
      refine awp_region ?_
      refine sq_plain rfl rfl rfl (w_move rfl (ev_tmp rfl)) ?_
      refine sq_plain rfl rfl rfl (w_assign rfl (ev_tmp rfl)) ?_
      refine sq_nil ?_
      refine awp_ret ?_
      exact retR rfl (rv_tmp' rfl (by rfl))
end Go.Proofs.Ytinakggafbidcaa
