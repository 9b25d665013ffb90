/- FnLocks: for all drawn locks conflicting locks are never granted, the oldest transaction never waits for one that may be aborted, and released locks no longer conflict; the program answers what the reference answers. No condition. -/
import Derived.Test.YteliahajeokciaaDrawLW
import Derived.Test.YteliahajeokciaaLock5M
import Derived.Test.YteliahajeokciaaBigW
import Derived.Test.YteliahajeokciaaAvLaw
set_option linter.unusedVariables false
set_option linter.unusedSimpArgs false
set_option maxRecDepth 100000
set_option maxHeartbeats 1000000
namespace Go.Proofs.Yteliahajeokciaa
open Go Go.AV Go.M
open Go.ChangeShapes Go.WideShapes Go.ChangeAt Go.RowKit
section
attribute [local irreducible] OpW OpA OpS AWP FSpec ESpec GSpec OpE RetOk RetOkG RvDen Le Ev GuardIs SrcIs
theorem fnLocks_spec (code : List Int) (hc : ∀ x ∈ code, (Lit.int .u8 x).wf = true) (more : List Int) (hm : ∀ x ∈ more, (Lit.int .u8 x).wf = true) : FSpec Try.prog 9 [bytesI code, bytesI more] (AV.bool true) := by
  refine spec_of_awp Try.func9 rfl Try.ntmps9 rfl ?_
  refine awp_seq ?_
  refine awp_region ?_
  refine sq_plain rfl rfl rfl (w_assign rfl ev_cb) ?_
  refine sq_nil ?_
  refine awp_seq ?_
  refine awp_seq ?_
  refine awp_region ?_
  refine sq_plain rfl rfl rfl (w_move rfl (ev_tmp rfl)) ?_
  refine sq_plain rfl rfl rfl (w_move rfl (ev_tmp rfl)) ?_
  refine sq_plain rfl rfl rfl (w_call rfl Try.call12 rfl (big_spec _ _) (evl_cons (ev_tmp rfl) (evl_cons (ev_tmp rfl) evl_nil))) ?_
  refine sq_nil ?_
  refine awp_cond (ev_tmp rfl) ?_ ?_
  · intro h46
    refine awp_seq ?_
    refine awp_region ?_
    refine sq_plain rfl rfl rfl (w_assign rfl ev_cb) ?_
    refine sq_nil ?_
    refine awp_ret ?_
    exact retR rfl (rv_tmp' rfl (by first | rfl | exact congrArg AV.bool (by have hpl := parts_law l3 n3; simp only [List.length_map] at hpl ⊢; rw [take_eq, hpl]; simp)))
  · intro h46
    have hb0 : ByteL code := byteL_of hc
    have hb1 : ByteL more := byteL_of hm
    refine awp_skip ?_
    refine awp_seq ?_
    refine awp_region ?_
    refine sq_plain rfl rfl rfl (w_move rfl (ev_tmp rfl)) ?_
    refine sq_callG [] rfl rfl rfl rfl Try.call84 rfl (drawAskLock_own code hb0) (evl_cons (ev_tmp rfl) evl_nil) rfl ?_
    intro x49 ok49
    obtain ⟨⟨l, fixed, x, v49⟩, hx49⟩ : ∃ z, x49 = z := ⟨_, rfl⟩
    subst hx49
    obtain ⟨hls, hfl, hxk⟩ := ok49
    dsimp only at hls hfl hxk ⊢
    have hxz : TLock.size x ≤ 64 := hxk
    have hll : l.length ≤ 1000 := Nat.le_trans sizeL_len hls
    refine sq_plain rfl rfl rfl (w_move rfl (ev_tmp rfl)) ?_
    refine sq_plain rfl rfl rfl (w_extract rfl (ev_tmp rfl) rfl) ?_
    refine sq_plain rfl rfl rfl (w_extract rfl (ev_tmp rfl) rfl) ?_
    refine sq_plain rfl rfl rfl (w_extract rfl (ev_tmp rfl) rfl) ?_
    refine sq_alloc rfl rfl rfl rfl Try.zeroValue96 rfl ?_
    intro b7
    refine sq_plain rfl rfl rfl (w_assign rfl (ev_tmp rfl)) ?_
    refine sq_plain rfl rfl rfl (w_assign rfl (ev_tmp rfl)) ?_
    refine sq_storeB0 0 rfl rfl rfl (ev_tmp rfl) (ev_tmp rfl) (as_agg _) rfl Try.sizeOf96 rfl ?_
    refine sq_nil ?_
    refine awp_seq ?_
    refine AWP.le (le_sealD [1] 5 rfl rfl (lt_arr (List.mem_of_getElem? (i := 0) rfl) le_refl_e) gin_false) ?_
    refine awp_region ?_
    refine sq_plain rfl rfl rfl (w_move rfl (ev_tmp rfl)) ?_
    refine sq_plain rfl rfl rfl (w_move rfl (ev_tmp rfl)) ?_
    refine sq_plain rfl rfl rfl (w_loadA 0 rfl (ev_tmp rfl) rfl Try.isAgg96 Try.sizeOf96 rfl) ?_
    refine sq_plain rfl rfl rfl (w_call rfl Try.call85 rfl (askR_spec _ _ _ (by first | assumption | omega) (by first | assumption | omega)) (evl_cons (ev_tmp rfl) (evl_cons (ev_tmp rfl) (evl_cons (ev_tmp rfl) evl_nil)))) ?_
    refine sq_plain rfl rfl rfl (w_move rfl (ev_tmp rfl)) ?_
    refine sq_plain rfl rfl rfl (w_extract rfl (ev_tmp rfl) rfl) ?_
    refine sq_plain rfl rfl rfl (w_extract rfl (ev_tmp rfl) rfl) ?_
    refine sq_plain rfl rfl rfl (w_extract rfl (ev_tmp rfl) rfl) ?_
    refine sq_plain rfl rfl rfl (w_assign rfl (ev_tmp rfl)) ?_
    refine sq_plain rfl rfl rfl (w_assign rfl (ev_tmp rfl)) ?_
    refine sq_plain rfl rfl rfl (w_assign rfl (ev_tmp rfl)) ?_
    refine sq_nil ?_
    refine awp_seq ?_
    refine awp_region ?_
    refine sq_plain rfl rfl rfl (w_move rfl (ev_tmp rfl)) ?_
    refine sq_plain rfl rfl rfl (w_move rfl (ev_tmp rfl)) ?_
    refine sq_plain rfl rfl rfl (w_loadA 0 rfl (ev_tmp rfl) rfl Try.isAgg96 Try.sizeOf96 rfl) ?_
    refine sq_plain rfl rfl rfl (w_call rfl Try.call86 rfl (askS_spec _ _ _ (by first | assumption | omega) (by first | assumption | omega)) (evl_cons (ev_tmp rfl) (evl_cons (ev_tmp rfl) (evl_cons (ev_tmp rfl) evl_nil)))) ?_
    refine sq_plain rfl rfl rfl (w_move rfl (ev_tmp rfl)) ?_
    refine sq_plain rfl rfl rfl (w_extract rfl (ev_tmp rfl) rfl) ?_
    refine sq_plain rfl rfl rfl (w_extract rfl (ev_tmp rfl) rfl) ?_
    refine sq_plain rfl rfl rfl (w_extract rfl (ev_tmp rfl) rfl) ?_
    refine sq_plain rfl rfl rfl (w_assign rfl (ev_tmp rfl)) ?_
    refine sq_plain rfl rfl rfl (w_assign rfl (ev_tmp rfl)) ?_
    refine sq_plain rfl rfl rfl (w_assign rfl (ev_tmp rfl)) ?_
    refine sq_nil ?_
    refine awp_seq ?_
    refine awp_region ?_
    refine sq_plain rfl rfl rfl (w_move rfl (ev_tmp rfl)) ?_
    refine sq_plain rfl rfl rfl (w_loadA 0 rfl (ev_tmp rfl) rfl Try.isAgg96 Try.sizeOf96 rfl) ?_
    refine sq_plain rfl rfl rfl (w_call rfl Try.call87 rfl (waitsP_spec _ _ (by first | assumption | omega) (by first | assumption | omega)) (evl_cons (ev_tmp rfl) (evl_cons (ev_tmp rfl) evl_nil))) ?_
    refine sq_plain rfl rfl rfl (w_move rfl (ev_tmp rfl)) ?_
    refine sq_plain rfl rfl rfl (w_extract rfl (ev_tmp rfl) rfl) ?_
    refine sq_plain rfl rfl rfl (w_extract rfl (ev_tmp rfl) rfl) ?_
    refine sq_plain rfl rfl rfl (w_assign rfl (ev_tmp rfl)) ?_
    refine sq_plain rfl rfl rfl (w_assign rfl (ev_tmp rfl)) ?_
    refine sq_nil ?_
    refine awp_seq ?_
    refine awp_seq ?_
    refine awp_region ?_
    refine sq_plain rfl rfl rfl (w_move rfl (ev_tmp rfl)) ?_
    refine sq_plain rfl rfl rfl (w_move rfl (ev_tmp rfl)) ?_
    refine sq_plain rfl rfl rfl (w_bneq rfl Try.underlying4 (ev_tmp rfl) (ev_tmp rfl)) ?_
    refine sq_plain rfl rfl rfl (w_move rfl (ev_tmp rfl)) ?_
    refine sq_grd rfl rfl (guard_f rfl rfl rfl) (fun hc => w_move rfl (ev_tmp rfl)) ?_
    refine sq_grd rfl rfl (guard_f rfl rfl rfl) (fun hc => w_move rfl (ev_tmp rfl)) ?_
    refine sq_grd rfl rfl (guard_f rfl rfl rfl) (fun hc => w_neq rfl (ev_whn rfl hc) (ev_whn rfl hc)) ?_
    refine sq_plain rfl rfl rfl (w_or rfl (ev_tmp rfl) (evif_w rfl)) ?_
    refine sq_plain rfl rfl rfl (w_move rfl (ev_tmp rfl)) ?_
    refine sq_grd rfl rfl (guard_f rfl rfl rfl) (fun hc => w_move rfl (ev_tmp rfl)) ?_
    refine sq_grd rfl rfl (guard_f rfl rfl rfl) (fun hc => w_move rfl (ev_tmp rfl)) ?_
    refine sq_grd rfl rfl (guard_f rfl rfl rfl) (fun hc => w_call rfl Try.call88 rfl (sameInts_spec _ _) (evl_cons (ev_whn rfl hc) (evl_cons (ev_whn rfl hc) evl_nil))) ?_
    refine sq_grd rfl rfl (guard_f rfl rfl rfl) (fun hc => w_not rfl (ev_whn rfl hc)) ?_
    refine sq_plain rfl rfl rfl (w_or rfl (ev_tmp rfl) (evif_w rfl)) ?_
    refine sq_plain rfl rfl rfl (w_move rfl (ev_tmp rfl)) ?_
    refine sq_grd rfl rfl (guard_f rfl rfl rfl) (fun hc => w_move rfl (ev_tmp rfl)) ?_
    refine sq_grd rfl rfl (guard_f rfl rfl rfl) (fun hc => w_call rfl Try.call89 rfl (goodLocks_spec _ (by first | assumption | omega)) (evl_cons (ev_whn rfl hc) evl_nil)) ?_
    refine sq_grd rfl rfl (guard_f rfl rfl rfl) (fun hc => w_move rfl (ev_tmp rfl)) ?_
    refine sq_grd rfl rfl (guard_f rfl rfl rfl) (fun hc => w_call rfl Try.call90 rfl (goodLocksS_spec _ (by first | assumption | omega)) (evl_cons (ev_whn rfl hc) evl_nil)) ?_
    refine sq_grd rfl rfl (guard_f rfl rfl rfl) (fun hc => w_bneq rfl Try.underlying4 (ev_whn rfl hc) (ev_whn rfl hc)) ?_
    refine sq_plain rfl rfl rfl (w_or rfl (ev_tmp rfl) (evif_w rfl)) ?_
    refine sq_nil ?_
    refine awp_cond (ev_tmp rfl) ?_ ?_
    · intro h95
      exfalso; rw [ask_eq] at h95; simp at h95
    · intro h95
      refine awp_skip ?_
      refine awp_seq ?_
      refine awp_seq ?_
      refine awp_region ?_
      refine sq_plain rfl rfl rfl (w_move rfl (ev_tmp rfl)) ?_
      refine sq_nil ?_
      refine awp_cond (ev_tmp rfl) ?_ ?_
      · intro h96
        obtain ⟨hg, hxl, hask, hwp⟩ := ask_ok h96
        obtain ⟨w, hw⟩ : ∃ w, waitsR l x = w := ⟨_, rfl⟩
        rw [hask, hwp, hw]
        have hwl := waitsR_len l x
        rw [hw] at hwl
        refine awp_seq ?_
        refine awp_seq ?_
        refine awp_region ?_
        refine sq_plain rfl rfl rfl (w_move rfl (ev_tmp rfl)) ?_
        refine sq_plain rfl rfl rfl (w_not rfl (ev_tmp rfl)) ?_
        refine sq_plain rfl rfl rfl (w_move rfl (ev_tmp rfl)) ?_
        refine sq_grd rfl rfl (guard_f rfl rfl rfl) (fun hc => w_move rfl (ev_tmp rfl)) ?_
        refine sq_grd rfl rfl (guard_f rfl rfl rfl) (fun hc => w_eql rfl (ev_whn rfl hc) ev_ci) ?_
        refine sq_grd rfl rfl (guard_f rfl rfl rfl) (fun hc => w_move rfl (ev_tmp rfl)) ?_
        refine sq_grd rfl rfl (guard_f rfl rfl rfl) (fun hc => w_llen rfl Try.underlying94 (ev_whn rfl hc)) ?_
        refine sq_grd rfl rfl (guard_f rfl rfl rfl) (fun hc => w_eql rfl (ev_whn rfl hc) ev_ci) ?_
        refine sq_grd rfl rfl (guard_f rfl rfl rfl) (fun hc => w_bneq rfl Try.underlying4 (ev_whn rfl hc) (ev_whn rfl hc)) ?_
        refine sq_plain rfl rfl rfl (w_or rfl (ev_tmp rfl) (evif_w rfl)) ?_
        refine sq_nil ?_
        refine awp_cond (ev_tmp rfl) ?_ ?_
        · intro h106
          exfalso; simp only [List.length_map, ask_one] at h106; simp at h106
        · intro h106
          refine awp_skip ?_
          refine awp_seq ?_
          refine awp_seq ?_
          refine awp_region ?_
          refine sq_plain rfl rfl rfl (w_move rfl (ev_tmp rfl)) ?_
          refine sq_plain rfl rfl rfl (w_llen rfl Try.underlying94 (ev_tmp rfl)) ?_
          refine sq_plain rfl rfl rfl (w_move rfl ev_ci) ?_
          refine sq_nil ?_
          refine awp_block ?_
          have hal := ask_len l fixed x w
          refine awp_loop_i [(1, _), (5, _), (6, _), (7, _), (8, _), (14, _), (107, _), (108, _)] _ (fun (i : Nat) => i ≤ (askL l fixed x w).2.length) (fun (i : Nat) => []) (fun (i : Nat) => [(109, AV.int i)]) (fun (i : Nat) => (askL l fixed x w).2.length - i) (0) ?_ (le_env ⟨rfl, rfl, rfl, rfl, rfl, rfl, rfl, rfl, rfl, trivial⟩) ?_
          · exact Nat.zero_le _
          intro i hinv
          refine awp_seq ?_
          refine awp_region ?_
          refine sq_plain rfl rfl rfl (w_lss rfl (ev_tmp rfl) (ev_tmp rfl)) ?_
          refine sq_nil ?_
          refine awp_seq ?_
          refine awp_cond (ev_tmp rfl) ?_ ?_
          · intro h110
            have k110 := of_decide_eq_true h110; try simp only [List.length_map] at k110
            have hlt : i < (askL l fixed x w).2.length := by omega
            obtain ⟨y, hy⟩ := get_some hlt
            have hyw := ask_wound (l := l) (fixed := fixed) (x := x) (v := y) (by rw [hw]; exact List.mem_of_getElem? hy)
            refine awp_skip ?_
            refine awp_seq ?_
            refine awp_block ?_
            refine awp_seq ?_
            refine awp_region ?_
            refine sq_plain rfl rfl rfl (w_idxm rfl Try.underlying94 Try.sizeOf3 (ev_tmp rfl) (ev_tmp rfl) hy (by first | omega | ((try simp only [List.length_map, List.length_take, List.length_cons, List.length_nil, chunks_len, szR] at *); omega) | (have hc2 := hc; simp only [Bool.and_eq_true, Bool.or_eq_true, Bool.or_eq_false_iff, Bool.and_eq_false_iff, Bool.not_eq_true', Bool.not_eq_false', decide_eq_true_eq, decide_eq_false_iff_not, beq_iff_eq, bne_iff_ne, List.length_map, List.length_take] at hc2; omega))) ?_
            refine sq_plain rfl rfl rfl (w_loadE1 rfl (ev_tmp rfl) Try.isAgg3 rfl) ?_
            refine sq_plain rfl rfl rfl (w_assign rfl (ev_tmp rfl)) ?_
            refine sq_nil ?_
            refine awp_seq ?_
            refine awp_region ?_
            refine sq_plain rfl rfl rfl (w_move rfl (ev_tmp rfl)) ?_
            refine sq_plain rfl rfl rfl (w_fldBn 1 rfl Try.underlying96 rfl Try.sizeOf3 (ev_tmp rfl) rfl) ?_
            refine sq_plain rfl rfl rfl (w_loadB1 0 rfl (ev_tmp rfl) rfl Try.isAgg3 rfl) ?_
            refine sq_plain rfl rfl rfl (w_leq rfl (ev_tmp rfl) (ev_tmp rfl)) ?_
            refine sq_plain rfl rfl rfl (w_move rfl (ev_tmp rfl)) ?_
            refine sq_grd rfl rfl (guard_f rfl rfl rfl) (fun hc => w_move rfl (ev_tmp rfl)) ?_
            refine sq_grd rfl rfl (guard_f rfl rfl rfl) (fun hc => w_move rfl (ev_tmp rfl)) ?_
            refine sq_grd rfl rfl (guard_f rfl rfl rfl) (fun hc => w_call rfl Try.call91 rfl (has_spec _ _) (evl_cons (ev_whn rfl hc) (evl_cons (ev_whn rfl hc) evl_nil))) ?_
            refine sq_plain rfl rfl rfl (w_or rfl (ev_tmp rfl) (evif_w rfl)) ?_
            refine sq_nil ?_
            refine awp_cond (ev_tmp rfl) ?_ ?_
            · intro h121
              exfalso; rw [hyw] at h121; cases h121
            · intro h121
              refine awp_skip ?_
              refine awp_region ?_
              refine sq_plain rfl rfl rfl (w_addi rfl (ev_tmp rfl) ev_ci (by first | omega | ((try simp only [List.length_map, List.length_take, List.length_cons, List.length_nil, chunks_len, szR] at *); omega) | (have hc2 := hc; simp only [Bool.and_eq_true, Bool.or_eq_true, Bool.or_eq_false_iff, Bool.and_eq_false_iff, Bool.not_eq_true', Bool.not_eq_false', decide_eq_true_eq, decide_eq_false_iff_not, beq_iff_eq, bne_iff_ne, List.length_map, List.length_take] at hc2; omega))) ?_
              refine sq_plain rfl rfl rfl (w_move rfl (ev_tmp rfl)) ?_
              refine sq_nil ?_
              refine round_end i (i + 1) ?_ ?_ (le_env ⟨rfl, rfl, rfl, rfl, rfl, rfl, rfl, rfl, rfl, trivial⟩)
              · omega
              · omega
          · intro h110
            have k110 := of_decide_eq_false h110; try simp only [List.length_map] at k110
            refine awp_exit ?_
            refine awp_seq ?_
            refine awp_seq ?_
            refine awp_region ?_
            refine sq_plain rfl rfl rfl (w_move rfl (ev_tmp rfl)) ?_
            refine sq_plain rfl rfl rfl (w_eql rfl (ev_tmp rfl) ev_ci) ?_
            refine sq_plain rfl rfl rfl (w_move rfl (ev_tmp rfl)) ?_
            refine sq_grd rfl rfl (guard_t rfl rfl rfl) (fun hc => w_move rfl (ev_tmp rfl)) ?_
            refine sq_grd rfl rfl (guard_t rfl rfl rfl) (fun hc => w_llen rfl Try.underlying94 (ev_whn rfl hc)) ?_
            refine sq_grd rfl rfl (guard_t rfl rfl rfl) (fun hc => w_eql rfl (ev_whn rfl hc) ev_ci) ?_
            refine sq_plain rfl rfl rfl (w_and rfl (ev_tmp rfl) (evif_w rfl)) ?_
            refine sq_nil ?_
            refine awp_cond (ev_tmp rfl) ?_ ?_
            · intro h129
              have hel : (w.any fun v => decide (v < x.Txn)) = true := by (simp only [List.length_map, Bool.and_eq_true, beq_iff_eq] at h129; exact ask_elder h129.1 (by omega))
              refine awp_seq ?_
              refine awp_region ?_
              refine sq_plain rfl rfl rfl (w_assign rfl ev_cb) ?_
              refine sq_nil ?_
              refine awp_seq ?_
              refine awp_seq ?_
              refine awp_region ?_
              refine sq_plain rfl rfl rfl (w_move rfl (ev_tmp rfl)) ?_
              refine sq_plain rfl rfl rfl (w_llen rfl Try.underlying94 (ev_tmp rfl)) ?_
              refine sq_plain rfl rfl rfl (w_move rfl ev_ci) ?_
              refine sq_nil ?_
              refine awp_block ?_
              refine awp_loop_i2 [(1, _), (5, _), (7, _), (14, _), (130, _), (131, _)] _ (fun (i : Nat) (e : Bool) => i ≤ w.length ∧ e = (w.take i).any fun v => decide (v < x.Txn)) (fun (i : Nat) (e : Bool) => []) (fun (i : Nat) (e : Bool) => [(18, AV.bool e), (132, AV.int i)]) (fun (i : Nat) (e : Bool) => w.length - i) (0) (false) ?_ (le_env ⟨rfl, rfl, rfl, rfl, rfl, rfl, rfl, rfl, trivial⟩) ?_
              · exact ⟨Nat.zero_le _, rfl⟩
              intro i e hinv
              refine awp_seq ?_
              refine awp_region ?_
              refine sq_plain rfl rfl rfl (w_lss rfl (ev_tmp rfl) (ev_tmp rfl)) ?_
              refine sq_nil ?_
              refine awp_seq ?_
              refine awp_cond (ev_tmp rfl) ?_ ?_
              · intro h133
                have k133 := of_decide_eq_true h133; try simp only [List.length_map] at k133
                have hlt : i < w.length := by omega
                obtain ⟨y, hy⟩ := get_some hlt
                refine awp_skip ?_
                refine awp_seq ?_
                refine awp_block ?_
                refine awp_seq ?_
                refine awp_region ?_
                refine sq_plain rfl rfl rfl (w_idxm rfl Try.underlying94 Try.sizeOf3 (ev_tmp rfl) (ev_tmp rfl) hy (by first | omega | ((try simp only [List.length_map, List.length_take, List.length_cons, List.length_nil, chunks_len, szR] at *); omega) | (have hc2 := hc; simp only [Bool.and_eq_true, Bool.or_eq_true, Bool.or_eq_false_iff, Bool.and_eq_false_iff, Bool.not_eq_true', Bool.not_eq_false', decide_eq_true_eq, decide_eq_false_iff_not, beq_iff_eq, bne_iff_ne, List.length_map, List.length_take] at hc2; omega))) ?_
                refine sq_plain rfl rfl rfl (w_loadE1 rfl (ev_tmp rfl) Try.isAgg3 rfl) ?_
                refine sq_plain rfl rfl rfl (w_assign rfl (ev_tmp rfl)) ?_
                refine sq_nil ?_
                refine awp_region ?_
                refine sq_plain rfl rfl rfl (w_move rfl (ev_tmp rfl)) ?_
                refine sq_plain rfl rfl rfl (w_move rfl (ev_tmp rfl)) ?_
                refine sq_grd rfl rfl (guard_f rfl rfl rfl) (fun hc => w_move rfl (ev_tmp rfl)) ?_
                refine sq_grd rfl rfl (guard_f rfl rfl rfl) (fun hc => w_fldBn 1 rfl Try.underlying96 rfl Try.sizeOf3 (ev_tmp rfl) rfl) ?_
                refine sq_grd rfl rfl (guard_f rfl rfl rfl) (fun hc => w_loadB1 0 rfl (ev_whn rfl hc) rfl Try.isAgg3 rfl) ?_
                refine sq_grd rfl rfl (guard_f rfl rfl rfl) (fun hc => w_lss rfl (ev_whn rfl hc) (ev_whn rfl hc)) ?_
                refine sq_plain rfl rfl rfl (w_or rfl (ev_tmp rfl) (evif_w rfl)) ?_
                refine sq_plain rfl rfl rfl (w_assign rfl (ev_tmp rfl)) ?_
                refine sq_nil ?_
                refine awp_region ?_
                refine sq_plain rfl rfl rfl (w_addi rfl (ev_tmp rfl) ev_ci (by first | omega | ((try simp only [List.length_map, List.length_take, List.length_cons, List.length_nil, chunks_len, szR] at *); omega) | (have hc2 := hc; simp only [Bool.and_eq_true, Bool.or_eq_true, Bool.or_eq_false_iff, Bool.and_eq_false_iff, Bool.not_eq_true', Bool.not_eq_false', decide_eq_true_eq, decide_eq_false_iff_not, beq_iff_eq, bne_iff_ne, List.length_map, List.length_take] at hc2; omega))) ?_
                refine sq_plain rfl rfl rfl (w_move rfl (ev_tmp rfl)) ?_
                refine sq_nil ?_
                refine round_end2 i e (i + 1) (e || decide (y < x.Txn)) ?_ ?_ (le_env ⟨rfl, rfl, rfl, rfl, rfl, rfl, rfl, rfl, trivial⟩)
                · exact ⟨by omega, by rw [List.take_add_one, hy, hinv.2, List.any_append]; simp⟩
                · omega
              · intro h133
                have k133 := of_decide_eq_false h133; try simp only [List.length_map] at k133
                have hge : w.length ≤ i := by omega
                refine awp_exit ?_
                refine awp_seq ?_
                refine awp_region ?_
                refine sq_plain rfl rfl rfl (w_move rfl (ev_tmp rfl)) ?_
                refine sq_plain rfl rfl rfl (w_not rfl (ev_tmp rfl)) ?_
                refine sq_nil ?_
                refine awp_cond (ev_tmp rfl) ?_ ?_
                · intro h145
                  exfalso; rw [hinv.2, List.take_of_length_le hge, hel] at h145; cases h145
                · intro h145
                  refine awp_skip ?_
                  refine awp_seq ?_
                  refine awp_region ?_
                  refine sq_plain rfl rfl rfl (w_move rfl (ev_tmp rfl)) ?_
                  refine sq_plain rfl rfl rfl (w_assign rfl (ev_tmp rfl)) ?_
                  refine sq_nil ?_
                  refine awp_seq ?_
                  refine awp_seq ?_
                  refine awp_region ?_
                  refine sq_plain rfl rfl rfl (w_move rfl (ev_tmp rfl)) ?_
                  refine sq_plain rfl rfl rfl (w_llen rfl Try.underlying94 (ev_tmp rfl)) ?_
                  refine sq_plain rfl rfl rfl (w_move rfl ev_ci) ?_
                  refine sq_nil ?_
                  refine awp_block ?_
                  refine awp_loop_i [(1, _), (7, _), (147, _), (148, _)] _ (fun (i : Nat) => i ≤ w.length) (fun (i : Nat) => []) (fun (i : Nat) => [(21, AV.list 3 ((freeAll l (w.take i)).map TLock.cs)), (149, AV.int i)]) (fun (i : Nat) => w.length - i) (0) ?_ (le_env ⟨rfl, rfl, rfl, rfl, rfl, rfl, trivial⟩) ?_
                  · exact Nat.zero_le _
                  intro i hinv
                  refine awp_seq ?_
                  refine awp_region ?_
                  refine sq_plain rfl rfl rfl (w_lss rfl (ev_tmp rfl) (ev_tmp rfl)) ?_
                  refine sq_nil ?_
                  refine awp_seq ?_
                  refine awp_cond (ev_tmp rfl) ?_ ?_
                  · intro h150
                    have k150 := of_decide_eq_true h150; try simp only [List.length_map] at k150
                    have hlt : i < w.length := by omega
                    obtain ⟨y, hy⟩ := get_some hlt
                    have hfz := freeAll_size l (w.take i)
                    have hfo := free_ok (ts := w.take i) hg (waits_txn (x := x) (v := y) hg (by rw [hw]; exact List.mem_of_getElem? hy))
                    have hfs : freeAll l (w.take i ++ [y]) = freeAll l (w.take (i + 1)) := by rw [List.take_add_one, hy]; rfl
                    refine awp_skip ?_
                    refine awp_seq ?_
                    refine awp_block ?_
                    refine awp_seq ?_
                    refine awp_region ?_
                    refine sq_plain rfl rfl rfl (w_idxm rfl Try.underlying94 Try.sizeOf3 (ev_tmp rfl) (ev_tmp rfl) hy (by first | omega | ((try simp only [List.length_map, List.length_take, List.length_cons, List.length_nil, chunks_len, szR] at *); omega) | (have hc2 := hc; simp only [Bool.and_eq_true, Bool.or_eq_true, Bool.or_eq_false_iff, Bool.and_eq_false_iff, Bool.not_eq_true', Bool.not_eq_false', decide_eq_true_eq, decide_eq_false_iff_not, beq_iff_eq, bne_iff_ne, List.length_map, List.length_take] at hc2; omega))) ?_
                    refine sq_plain rfl rfl rfl (w_loadE1 rfl (ev_tmp rfl) Try.isAgg3 rfl) ?_
                    refine sq_plain rfl rfl rfl (w_assign rfl (ev_tmp rfl)) ?_
                    refine sq_nil ?_
                    refine awp_seq ?_
                    refine awp_region ?_
                    refine sq_plain rfl rfl rfl (w_move rfl (ev_tmp rfl)) ?_
                    refine sq_plain rfl rfl rfl (w_move rfl (ev_tmp rfl)) ?_
                    refine sq_plain rfl rfl rfl (w_call rfl Try.call92 rfl (freeP_spec _ _ (by first | assumption | omega)) (evl_cons (ev_tmp rfl) (evl_cons (ev_tmp rfl) evl_nil))) ?_
                    refine sq_plain rfl rfl rfl (w_move rfl (ev_tmp rfl)) ?_
                    refine sq_plain rfl rfl rfl (w_extract rfl (ev_tmp rfl) rfl) ?_
                    refine sq_plain rfl rfl rfl (w_extract rfl (ev_tmp rfl) rfl) ?_
                    refine sq_plain rfl rfl rfl (w_assign rfl (ev_tmp rfl)) ?_
                    refine sq_plain rfl rfl rfl (w_assign rfl (ev_tmp rfl)) ?_
                    refine sq_nil ?_
                    refine awp_seq ?_
                    refine awp_seq ?_
                    rw [hfo]
                    refine awp_region ?_
                    refine sq_plain rfl rfl rfl (w_move rfl (ev_tmp rfl)) ?_
                    refine sq_plain rfl rfl rfl (w_not rfl (ev_tmp rfl)) ?_
                    refine sq_nil ?_
                    refine awp_cond (ev_tmp rfl) ?_ ?_
                    · intro h160
                      exfalso; simp at h160
                    · intro h160
                      refine awp_skip ?_
                      refine awp_region ?_
                      refine sq_plain rfl rfl rfl (w_move rfl (ev_tmp rfl)) ?_
                      refine sq_plain rfl rfl rfl (w_assign rfl (ev_tmp rfl)) ?_
                      refine sq_nil ?_
                      refine awp_region ?_
                      refine sq_plain rfl rfl rfl (w_addi rfl (ev_tmp rfl) ev_ci (by first | omega | ((try simp only [List.length_map, List.length_take, List.length_cons, List.length_nil, chunks_len, szR] at *); omega) | (have hc2 := hc; simp only [Bool.and_eq_true, Bool.or_eq_true, Bool.or_eq_false_iff, Bool.and_eq_false_iff, Bool.not_eq_true', Bool.not_eq_false', decide_eq_true_eq, decide_eq_false_iff_not, beq_iff_eq, bne_iff_ne, List.length_map, List.length_take] at hc2; omega))) ?_
                      refine sq_plain rfl rfl rfl (w_move rfl (ev_tmp rfl)) ?_
                      refine sq_nil ?_
                      refine round_end i (i + 1) ?_ ?_ (le_env ⟨congrArg (fun z => some (AV.list 3 (List.map TLock.cs z))) hfs, rfl, rfl, rfl, rfl, rfl, trivial⟩)
                      · omega
                      · omega
                  · intro h150
                    have k150 := of_decide_eq_false h150; try simp only [List.length_map] at k150
                    have hge : w.length ≤ i := by omega
                    rw [List.take_of_length_le hge]
                    have hfz := freeAll_size l w
                    have htz := takeR_size (freeAll l w) x
                    refine awp_exit ?_
                    refine awp_seq ?_
                    refine awp_region ?_
                    refine sq_plain rfl rfl rfl (w_move rfl (ev_tmp rfl)) ?_
                    refine sq_plain rfl rfl rfl (w_loadA 0 rfl (ev_tmp rfl) rfl Try.isAgg96 Try.sizeOf96 rfl) ?_
                    refine sq_plain rfl rfl rfl (w_call rfl Try.call93 rfl (takeR_spec _ _ (by first | assumption | omega) (by first | assumption | omega)) (evl_cons (ev_tmp rfl) (evl_cons (ev_tmp rfl) evl_nil))) ?_
                    refine sq_plain rfl rfl rfl (w_move rfl (ev_tmp rfl)) ?_
                    refine sq_plain rfl rfl rfl (w_extract rfl (ev_tmp rfl) rfl) ?_
                    refine sq_plain rfl rfl rfl (w_extract rfl (ev_tmp rfl) rfl) ?_
                    refine sq_plain rfl rfl rfl (w_assign rfl (ev_tmp rfl)) ?_
                    refine sq_plain rfl rfl rfl (w_assign rfl (ev_tmp rfl)) ?_
                    refine sq_nil ?_
                    refine awp_seq ?_
                    refine awp_region ?_
                    refine sq_plain rfl rfl rfl (w_move rfl (ev_tmp rfl)) ?_
                    refine sq_plain rfl rfl rfl (w_move rfl (ev_tmp rfl)) ?_
                    refine sq_grd rfl rfl (guard_t rfl rfl rfl) (fun hc => w_move rfl (ev_tmp rfl)) ?_
                    refine sq_grd rfl rfl (guard_t rfl rfl rfl) (fun hc => w_call rfl Try.call89 rfl (goodLocks_spec _ (by first | assumption | omega)) (evl_cons (ev_whn rfl hc) evl_nil)) ?_
                    refine sq_grd rfl rfl (guard_t rfl rfl rfl) (fun hc => w_not rfl (ev_whn rfl hc)) ?_
                    refine sq_plain rfl rfl rfl (w_and rfl (ev_tmp rfl) (evif_w rfl)) ?_
                    refine sq_plain rfl rfl rfl (w_move rfl (ev_tmp rfl)) ?_
                    refine sq_grd rfl rfl (guard_f rfl rfl rfl) (fun hc => w_move rfl (ev_tmp rfl)) ?_
                    refine sq_grd rfl rfl (guard_f rfl rfl rfl) (fun hc => w_not rfl (ev_whn rfl hc)) ?_
                    refine sq_grd rfl rfl (guard_f rfl rfl rfl) (fun hc => w_move rfl (ev_whn rfl hc)) ?_
                    refine sq_grd rfl rfl (guard_wt rfl rfl rfl) (fun hc => w_move rfl (ev_tmp rfl)) ?_
                    refine sq_grd rfl rfl (guard_wt rfl rfl rfl) (fun hc => w_llen rfl Try.underlying93 (ev_whn rfl hc)) ?_
                    refine sq_grd rfl rfl (guard_wt rfl rfl rfl) (fun hc => w_lss rfl (ev_whn rfl hc) ev_ci) ?_
                    refine sq_grd rfl rfl (guard_f rfl rfl rfl) (fun hc => w_and rfl (ev_whn rfl hc) (evif_w2 rfl hc)) ?_
                    refine sq_plain rfl rfl rfl (w_or rfl (ev_tmp rfl) (evif_w rfl)) ?_
                    refine sq_nil ?_
                    refine awp_cond (ev_tmp rfl) ?_ ?_
                    · intro h183
                      exfalso; have hft := final_take hg hxl; rw [hw] at hft; simp only [List.length_map] at h183; rw [hft] at h183; cases h183
                    · intro h183
                      refine awp_skip ?_
                      refine awp_seq ?_
                      refine awp_region ?_
                      refine sq_plain rfl rfl rfl (w_move rfl (ev_tmp rfl)) ?_
                      refine sq_callG [] rfl rfl rfl rfl Try.call94 rfl (drawTakeLock_own more hb1) (evl_cons (ev_tmp rfl) evl_nil) rfl ?_
                      intro x186 ok186
                      obtain ⟨⟨l2, x2, v186⟩, hx186⟩ : ∃ z, x186 = z := ⟨_, rfl⟩
                      subst hx186
                      obtain ⟨hls2, hxk2⟩ := ok186
                      dsimp only at hls2 hxk2 ⊢
                      refine sq_plain rfl rfl rfl (w_move rfl (ev_tmp rfl)) ?_
                      refine sq_plain rfl rfl rfl (w_extract rfl (ev_tmp rfl) rfl) ?_
                      refine sq_plain rfl rfl rfl (w_extract rfl (ev_tmp rfl) rfl) ?_
                      refine sq_alloc rfl rfl rfl rfl Try.zeroValue96 rfl ?_
                      intro b29
                      refine sq_plain rfl rfl rfl (w_assign rfl (ev_tmp rfl)) ?_
                      refine sq_storeB0 0 rfl rfl rfl (ev_tmp rfl) (ev_tmp rfl) (as_agg _) rfl Try.sizeOf96 rfl ?_
                      refine sq_nil ?_
                      refine awp_seq ?_
                      refine AWP.le (le_sealD [1] 28 rfl rfl (lt_arr (List.mem_of_getElem? (i := 0) rfl) le_refl_e) gin_false) ?_
                      refine awp_region ?_
                      refine sq_plain rfl rfl rfl (w_move rfl (ev_tmp rfl)) ?_
                      refine sq_plain rfl rfl rfl (w_loadA 0 rfl (ev_tmp rfl) rfl Try.isAgg96 Try.sizeOf96 rfl) ?_
                      refine sq_plain rfl rfl rfl (w_call rfl Try.call93 rfl (takeR_spec _ _ (by first | assumption | omega) (by first | assumption | omega)) (evl_cons (ev_tmp rfl) (evl_cons (ev_tmp rfl) evl_nil))) ?_
                      refine sq_plain rfl rfl rfl (w_move rfl (ev_tmp rfl)) ?_
                      refine sq_plain rfl rfl rfl (w_extract rfl (ev_tmp rfl) rfl) ?_
                      refine sq_plain rfl rfl rfl (w_extract rfl (ev_tmp rfl) rfl) ?_
                      refine sq_plain rfl rfl rfl (w_assign rfl (ev_tmp rfl)) ?_
                      refine sq_plain rfl rfl rfl (w_assign rfl (ev_tmp rfl)) ?_
                      refine sq_nil ?_
                      refine awp_seq ?_
                      refine awp_region ?_
                      refine sq_plain rfl rfl rfl (w_move rfl (ev_tmp rfl)) ?_
                      refine sq_plain rfl rfl rfl (w_loadA 0 rfl (ev_tmp rfl) rfl Try.isAgg96 Try.sizeOf96 rfl) ?_
                      refine sq_plain rfl rfl rfl (w_call rfl Try.call95 rfl (takeS_spec _ _ (by first | assumption | omega) (by first | assumption | omega)) (evl_cons (ev_tmp rfl) (evl_cons (ev_tmp rfl) evl_nil))) ?_
                      refine sq_plain rfl rfl rfl (w_move rfl (ev_tmp rfl)) ?_
                      refine sq_plain rfl rfl rfl (w_extract rfl (ev_tmp rfl) rfl) ?_
                      refine sq_plain rfl rfl rfl (w_extract rfl (ev_tmp rfl) rfl) ?_
                      refine sq_plain rfl rfl rfl (w_assign rfl (ev_tmp rfl)) ?_
                      refine sq_plain rfl rfl rfl (w_assign rfl (ev_tmp rfl)) ?_
                      refine sq_nil ?_
                      refine awp_seq ?_
                      refine awp_region ?_
                      refine sq_plain rfl rfl rfl (w_move rfl (ev_tmp rfl)) ?_
                      refine sq_callG [] rfl rfl rfl rfl Try.call96 rfl (drawFreeLocks_own more hb1) (evl_cons (ev_tmp rfl) evl_nil) rfl ?_
                      intro x203 ok203
                      obtain ⟨⟨l3, n3, v203⟩, hx203⟩ : ∃ z, x203 = z := ⟨_, rfl⟩
                      subst hx203
                      obtain ⟨hls3, hn0, hn7⟩ := ok203
                      dsimp only at hls3 hn0 hn7 ⊢
                      have hll3 : l3.length ≤ 1000 := Nat.le_trans sizeL_len hls3
                      have hp3 := freeP_len l3 n3
                      have ho3 := ofP_len l3 n3
                      refine sq_plain rfl rfl rfl (w_move rfl (ev_tmp rfl)) ?_
                      refine sq_plain rfl rfl rfl (w_extract rfl (ev_tmp rfl) rfl) ?_
                      refine sq_plain rfl rfl rfl (w_extract rfl (ev_tmp rfl) rfl) ?_
                      refine sq_plain rfl rfl rfl (w_assign rfl (ev_tmp rfl)) ?_
                      refine sq_plain rfl rfl rfl (w_assign rfl (ev_tmp rfl)) ?_
                      refine sq_nil ?_
                      refine awp_seq ?_
                      refine AWP.le (le_sealD [0] 34 rfl rfl (lt_arr (List.mem_of_getElem? (i := 0) rfl) le_refl_e) gin_false) ?_
                      refine awp_region ?_
                      refine sq_plain rfl rfl rfl (w_move rfl (ev_tmp rfl)) ?_
                      refine sq_plain rfl rfl rfl (w_move rfl (ev_tmp rfl)) ?_
                      refine sq_plain rfl rfl rfl (w_call rfl Try.call92 rfl (freeP_spec _ _ (by first | assumption | omega)) (evl_cons (ev_tmp rfl) (evl_cons (ev_tmp rfl) evl_nil))) ?_
                      refine sq_plain rfl rfl rfl (w_move rfl (ev_tmp rfl)) ?_
                      refine sq_plain rfl rfl rfl (w_extract rfl (ev_tmp rfl) rfl) ?_
                      refine sq_plain rfl rfl rfl (w_extract rfl (ev_tmp rfl) rfl) ?_
                      refine sq_plain rfl rfl rfl (w_assign rfl (ev_tmp rfl)) ?_
                      refine sq_plain rfl rfl rfl (w_assign rfl (ev_tmp rfl)) ?_
                      refine sq_nil ?_
                      refine awp_seq ?_
                      refine awp_region ?_
                      refine sq_plain rfl rfl rfl (w_move rfl (ev_tmp rfl)) ?_
                      refine sq_plain rfl rfl rfl (w_move rfl (ev_tmp rfl)) ?_
                      refine sq_plain rfl rfl rfl (w_call rfl Try.call97 rfl (freePS_spec _ _ (by first | assumption | omega)) (evl_cons (ev_tmp rfl) (evl_cons (ev_tmp rfl) evl_nil))) ?_
                      refine sq_plain rfl rfl rfl (w_move rfl (ev_tmp rfl)) ?_
                      refine sq_plain rfl rfl rfl (w_extract rfl (ev_tmp rfl) rfl) ?_
                      refine sq_plain rfl rfl rfl (w_extract rfl (ev_tmp rfl) rfl) ?_
                      refine sq_plain rfl rfl rfl (w_assign rfl (ev_tmp rfl)) ?_
                      refine sq_plain rfl rfl rfl (w_assign rfl (ev_tmp rfl)) ?_
                      refine sq_nil ?_
                      refine awp_seq ?_
                      refine awp_region ?_
                      refine sq_plain rfl rfl rfl (w_move rfl (ev_tmp rfl)) ?_
                      refine sq_plain rfl rfl rfl (w_move rfl (ev_tmp rfl)) ?_
                      refine sq_plain rfl rfl rfl (w_call rfl Try.call98 rfl (ofP_spec _ _ (by first | assumption | omega)) (evl_cons (ev_tmp rfl) (evl_cons (ev_tmp rfl) evl_nil))) ?_
                      refine sq_plain rfl rfl rfl (w_move rfl (ev_tmp rfl)) ?_
                      refine sq_plain rfl rfl rfl (w_extract rfl (ev_tmp rfl) rfl) ?_
                      refine sq_plain rfl rfl rfl (w_extract rfl (ev_tmp rfl) rfl) ?_
                      refine sq_plain rfl rfl rfl (w_assign rfl (ev_tmp rfl)) ?_
                      refine sq_plain rfl rfl rfl (w_assign rfl (ev_tmp rfl)) ?_
                      refine sq_nil ?_
                      refine awp_seq ?_
                      refine awp_region ?_
                      refine sq_plain rfl rfl rfl (w_move rfl (ev_tmp rfl)) ?_
                      refine sq_plain rfl rfl rfl (w_move rfl (ev_tmp rfl)) ?_
                      refine sq_plain rfl rfl rfl (w_call rfl Try.call99 rfl (ofPS_spec _ _ (by first | assumption | omega)) (evl_cons (ev_tmp rfl) (evl_cons (ev_tmp rfl) evl_nil))) ?_
                      refine sq_plain rfl rfl rfl (w_move rfl (ev_tmp rfl)) ?_
                      refine sq_plain rfl rfl rfl (w_extract rfl (ev_tmp rfl) rfl) ?_
                      refine sq_plain rfl rfl rfl (w_extract rfl (ev_tmp rfl) rfl) ?_
                      refine sq_plain rfl rfl rfl (w_assign rfl (ev_tmp rfl)) ?_
                      refine sq_plain rfl rfl rfl (w_assign rfl (ev_tmp rfl)) ?_
                      refine sq_nil ?_
                      refine awp_seq ?_
                      refine awp_region ?_
                      refine sq_plain rfl rfl rfl (w_move rfl (ev_tmp rfl)) ?_
                      refine sq_plain rfl rfl rfl (w_move rfl (ev_tmp rfl)) ?_
                      refine sq_plain rfl rfl rfl (w_beql rfl Try.underlying4 (ev_tmp rfl) (ev_tmp rfl)) ?_
                      refine sq_plain rfl rfl rfl (w_move rfl (ev_tmp rfl)) ?_
                      refine sq_grd rfl rfl (guard_t rfl rfl rfl) (fun hc => w_move rfl (ev_tmp rfl)) ?_
                      refine sq_grd rfl rfl (guard_t rfl rfl rfl) (fun hc => w_move rfl (ev_tmp rfl)) ?_
                      refine sq_grd rfl rfl (guard_t rfl rfl rfl) (fun hc => w_call rfl Try.call100 rfl (pSameLocks_spec _ _) (evl_cons (ev_whn rfl hc) (evl_cons (ev_whn rfl hc) evl_nil))) ?_
                      refine sq_plain rfl rfl rfl (w_and rfl (ev_tmp rfl) (evif_w rfl)) ?_
                      refine sq_plain rfl rfl rfl (w_move rfl (ev_tmp rfl)) ?_
                      refine sq_grd rfl rfl (guard_t rfl rfl rfl) (fun hc => w_move rfl (ev_tmp rfl)) ?_
                      refine sq_grd rfl rfl (guard_t rfl rfl rfl) (fun hc => w_move rfl (ev_tmp rfl)) ?_
                      refine sq_grd rfl rfl (guard_t rfl rfl rfl) (fun hc => w_beql rfl Try.underlying4 (ev_whn rfl hc) (ev_whn rfl hc)) ?_
                      refine sq_plain rfl rfl rfl (w_and rfl (ev_tmp rfl) (evif_w rfl)) ?_
                      refine sq_plain rfl rfl rfl (w_move rfl (ev_tmp rfl)) ?_
                      refine sq_grd rfl rfl (guard_t rfl rfl rfl) (fun hc => w_move rfl (ev_tmp rfl)) ?_
                      refine sq_grd rfl rfl (guard_t rfl rfl rfl) (fun hc => w_move rfl (ev_tmp rfl)) ?_
                      refine sq_grd rfl rfl (guard_t rfl rfl rfl) (fun hc => w_call rfl Try.call100 rfl (pSameLocks_spec _ _) (evl_cons (ev_whn rfl hc) (evl_cons (ev_whn rfl hc) evl_nil))) ?_
                      refine sq_plain rfl rfl rfl (w_and rfl (ev_tmp rfl) (evif_w rfl)) ?_
                      refine sq_plain rfl rfl rfl (w_move rfl (ev_tmp rfl)) ?_
                      refine sq_grd rfl rfl (guard_t rfl rfl rfl) (fun hc => w_move rfl (ev_tmp rfl)) ?_
                      refine sq_grd rfl rfl (guard_t rfl rfl rfl) (fun hc => w_move rfl (ev_tmp rfl)) ?_
                      refine sq_grd rfl rfl (guard_t rfl rfl rfl) (fun hc => w_beql rfl Try.underlying4 (ev_whn rfl hc) (ev_whn rfl hc)) ?_
                      refine sq_plain rfl rfl rfl (w_and rfl (ev_tmp rfl) (evif_w rfl)) ?_
                      refine sq_plain rfl rfl rfl (w_move rfl (ev_tmp rfl)) ?_
                      refine sq_grd rfl rfl (guard_t rfl rfl rfl) (fun hc => w_move rfl (ev_tmp rfl)) ?_
                      refine sq_grd rfl rfl (guard_t rfl rfl rfl) (fun hc => w_move rfl (ev_tmp rfl)) ?_
                      refine sq_grd rfl rfl (guard_t rfl rfl rfl) (fun hc => w_call rfl Try.call100 rfl (pSameLocks_spec _ _) (evl_cons (ev_whn rfl hc) (evl_cons (ev_whn rfl hc) evl_nil))) ?_
                      refine sq_plain rfl rfl rfl (w_and rfl (ev_tmp rfl) (evif_w rfl)) ?_
                      refine sq_plain rfl rfl rfl (w_move rfl (ev_tmp rfl)) ?_
                      refine sq_grd rfl rfl (guard_t rfl rfl rfl) (fun hc => w_move rfl (ev_tmp rfl)) ?_
                      refine sq_grd rfl rfl (guard_t rfl rfl rfl) (fun hc => w_not rfl (ev_whn rfl hc)) ?_
                      refine sq_grd rfl rfl (guard_t rfl rfl rfl) (fun hc => w_move rfl (ev_whn rfl hc)) ?_
                      refine sq_grd rfl rfl (guard_wf rfl rfl rfl) (fun hc => w_move rfl (ev_tmp rfl)) ?_
                      refine sq_grd rfl rfl (guard_wf rfl rfl rfl) (fun hc => w_llen rfl Try.underlying93 (ev_whn rfl hc)) ?_
                      refine sq_grd rfl rfl (guard_wf rfl rfl rfl) (fun hc => w_move rfl (ev_tmp rfl)) ?_
                      refine sq_grd rfl rfl (guard_wf rfl rfl rfl) (fun hc => w_llen rfl Try.underlying93 (ev_whn rfl hc)) ?_
                      refine sq_grd rfl rfl (guard_wf rfl rfl rfl) (fun hc => w_addi rfl (ev_whn rfl hc) (ev_whn rfl hc) (by first | omega | ((try simp only [List.length_map, List.length_take, List.length_cons, List.length_nil, chunks_len, szR] at *); omega) | (have hc2 := hc; simp only [Bool.and_eq_true, Bool.or_eq_true, Bool.or_eq_false_iff, Bool.and_eq_false_iff, Bool.not_eq_true', Bool.not_eq_false', decide_eq_true_eq, decide_eq_false_iff_not, beq_iff_eq, bne_iff_ne, List.length_map, List.length_take] at hc2; omega))) ?_
                      refine sq_grd rfl rfl (guard_wf rfl rfl rfl) (fun hc => w_move rfl (ev_tmp rfl)) ?_
                      refine sq_grd rfl rfl (guard_wf rfl rfl rfl) (fun hc => w_llen rfl Try.underlying93 (ev_whn rfl hc)) ?_
                      refine sq_grd rfl rfl (guard_wf rfl rfl rfl) (fun hc => w_eql rfl (ev_whn rfl hc) (ev_whn rfl hc)) ?_
                      refine sq_grd rfl rfl (guard_t rfl rfl rfl) (fun hc => w_or rfl (ev_whn rfl hc) (evif_w2 rfl hc)) ?_
                      refine sq_plain rfl rfl rfl (w_and rfl (ev_tmp rfl) (evif_w rfl)) ?_
                      refine sq_plain rfl rfl rfl (w_assign rfl (ev_tmp rfl)) ?_
                      refine sq_nil ?_
                      refine awp_ret ?_
                      exact retR rfl (rv_tmp' rfl (by first | rfl | exact congrArg AV.bool (by have hpl := parts_law l3 n3; simp only [List.length_map] at hpl ⊢; rw [take_eq, hpl]; simp)))
            · intro h129
              refine awp_skip ?_
              refine awp_seq ?_
              refine awp_region ?_
              refine sq_plain rfl rfl rfl (w_move rfl (ev_tmp rfl)) ?_
              refine sq_plain rfl rfl rfl (w_assign rfl (ev_tmp rfl)) ?_
              refine sq_nil ?_
              refine awp_seq ?_
              refine awp_seq ?_
              refine awp_region ?_
              refine sq_plain rfl rfl rfl (w_move rfl (ev_tmp rfl)) ?_
              refine sq_plain rfl rfl rfl (w_llen rfl Try.underlying94 (ev_tmp rfl)) ?_
              refine sq_plain rfl rfl rfl (w_move rfl ev_ci) ?_
              refine sq_nil ?_
              refine awp_block ?_
              refine awp_loop_i [(1, _), (7, _), (147, _), (148, _)] _ (fun (i : Nat) => i ≤ w.length) (fun (i : Nat) => []) (fun (i : Nat) => [(21, AV.list 3 ((freeAll l (w.take i)).map TLock.cs)), (149, AV.int i)]) (fun (i : Nat) => w.length - i) (0) ?_ (le_env ⟨rfl, rfl, rfl, rfl, rfl, rfl, trivial⟩) ?_
              · exact Nat.zero_le _
              intro i hinv
              refine awp_seq ?_
              refine awp_region ?_
              refine sq_plain rfl rfl rfl (w_lss rfl (ev_tmp rfl) (ev_tmp rfl)) ?_
              refine sq_nil ?_
              refine awp_seq ?_
              refine awp_cond (ev_tmp rfl) ?_ ?_
              · intro h150
                have k150 := of_decide_eq_true h150; try simp only [List.length_map] at k150
                have hlt : i < w.length := by omega
                obtain ⟨y, hy⟩ := get_some hlt
                have hfz := freeAll_size l (w.take i)
                have hfo := free_ok (ts := w.take i) hg (waits_txn (x := x) (v := y) hg (by rw [hw]; exact List.mem_of_getElem? hy))
                have hfs : freeAll l (w.take i ++ [y]) = freeAll l (w.take (i + 1)) := by rw [List.take_add_one, hy]; rfl
                refine awp_skip ?_
                refine awp_seq ?_
                refine awp_block ?_
                refine awp_seq ?_
                refine awp_region ?_
                refine sq_plain rfl rfl rfl (w_idxm rfl Try.underlying94 Try.sizeOf3 (ev_tmp rfl) (ev_tmp rfl) hy (by first | omega | ((try simp only [List.length_map, List.length_take, List.length_cons, List.length_nil, chunks_len, szR] at *); omega) | (have hc2 := hc; simp only [Bool.and_eq_true, Bool.or_eq_true, Bool.or_eq_false_iff, Bool.and_eq_false_iff, Bool.not_eq_true', Bool.not_eq_false', decide_eq_true_eq, decide_eq_false_iff_not, beq_iff_eq, bne_iff_ne, List.length_map, List.length_take] at hc2; omega))) ?_
                refine sq_plain rfl rfl rfl (w_loadE1 rfl (ev_tmp rfl) Try.isAgg3 rfl) ?_
                refine sq_plain rfl rfl rfl (w_assign rfl (ev_tmp rfl)) ?_
                refine sq_nil ?_
                refine awp_seq ?_
                refine awp_region ?_
                refine sq_plain rfl rfl rfl (w_move rfl (ev_tmp rfl)) ?_
                refine sq_plain rfl rfl rfl (w_move rfl (ev_tmp rfl)) ?_
                refine sq_plain rfl rfl rfl (w_call rfl Try.call92 rfl (freeP_spec _ _ (by first | assumption | omega)) (evl_cons (ev_tmp rfl) (evl_cons (ev_tmp rfl) evl_nil))) ?_
                refine sq_plain rfl rfl rfl (w_move rfl (ev_tmp rfl)) ?_
                refine sq_plain rfl rfl rfl (w_extract rfl (ev_tmp rfl) rfl) ?_
                refine sq_plain rfl rfl rfl (w_extract rfl (ev_tmp rfl) rfl) ?_
                refine sq_plain rfl rfl rfl (w_assign rfl (ev_tmp rfl)) ?_
                refine sq_plain rfl rfl rfl (w_assign rfl (ev_tmp rfl)) ?_
                refine sq_nil ?_
                refine awp_seq ?_
                refine awp_seq ?_
                rw [hfo]
                refine awp_region ?_
                refine sq_plain rfl rfl rfl (w_move rfl (ev_tmp rfl)) ?_
                refine sq_plain rfl rfl rfl (w_not rfl (ev_tmp rfl)) ?_
                refine sq_nil ?_
                refine awp_cond (ev_tmp rfl) ?_ ?_
                · intro h160
                  exfalso; simp at h160
                · intro h160
                  refine awp_skip ?_
                  refine awp_region ?_
                  refine sq_plain rfl rfl rfl (w_move rfl (ev_tmp rfl)) ?_
                  refine sq_plain rfl rfl rfl (w_assign rfl (ev_tmp rfl)) ?_
                  refine sq_nil ?_
                  refine awp_region ?_
                  refine sq_plain rfl rfl rfl (w_addi rfl (ev_tmp rfl) ev_ci (by first | omega | ((try simp only [List.length_map, List.length_take, List.length_cons, List.length_nil, chunks_len, szR] at *); omega) | (have hc2 := hc; simp only [Bool.and_eq_true, Bool.or_eq_true, Bool.or_eq_false_iff, Bool.and_eq_false_iff, Bool.not_eq_true', Bool.not_eq_false', decide_eq_true_eq, decide_eq_false_iff_not, beq_iff_eq, bne_iff_ne, List.length_map, List.length_take] at hc2; omega))) ?_
                  refine sq_plain rfl rfl rfl (w_move rfl (ev_tmp rfl)) ?_
                  refine sq_nil ?_
                  refine round_end i (i + 1) ?_ ?_ (le_env ⟨congrArg (fun z => some (AV.list 3 (List.map TLock.cs z))) hfs, rfl, rfl, rfl, rfl, rfl, trivial⟩)
                  · omega
                  · omega
              · intro h150
                have k150 := of_decide_eq_false h150; try simp only [List.length_map] at k150
                have hge : w.length ≤ i := by omega
                rw [List.take_of_length_le hge]
                have hfz := freeAll_size l w
                have htz := takeR_size (freeAll l w) x
                refine awp_exit ?_
                refine awp_seq ?_
                refine awp_region ?_
                refine sq_plain rfl rfl rfl (w_move rfl (ev_tmp rfl)) ?_
                refine sq_plain rfl rfl rfl (w_loadA 0 rfl (ev_tmp rfl) rfl Try.isAgg96 Try.sizeOf96 rfl) ?_
                refine sq_plain rfl rfl rfl (w_call rfl Try.call93 rfl (takeR_spec _ _ (by first | assumption | omega) (by first | assumption | omega)) (evl_cons (ev_tmp rfl) (evl_cons (ev_tmp rfl) evl_nil))) ?_
                refine sq_plain rfl rfl rfl (w_move rfl (ev_tmp rfl)) ?_
                refine sq_plain rfl rfl rfl (w_extract rfl (ev_tmp rfl) rfl) ?_
                refine sq_plain rfl rfl rfl (w_extract rfl (ev_tmp rfl) rfl) ?_
                refine sq_plain rfl rfl rfl (w_assign rfl (ev_tmp rfl)) ?_
                refine sq_plain rfl rfl rfl (w_assign rfl (ev_tmp rfl)) ?_
                refine sq_nil ?_
                refine awp_seq ?_
                refine awp_region ?_
                refine sq_plain rfl rfl rfl (w_move rfl (ev_tmp rfl)) ?_
                refine sq_plain rfl rfl rfl (w_move rfl (ev_tmp rfl)) ?_
                refine sq_grd rfl rfl (guard_t rfl rfl rfl) (fun hc => w_move rfl (ev_tmp rfl)) ?_
                refine sq_grd rfl rfl (guard_t rfl rfl rfl) (fun hc => w_call rfl Try.call89 rfl (goodLocks_spec _ (by first | assumption | omega)) (evl_cons (ev_whn rfl hc) evl_nil)) ?_
                refine sq_grd rfl rfl (guard_t rfl rfl rfl) (fun hc => w_not rfl (ev_whn rfl hc)) ?_
                refine sq_plain rfl rfl rfl (w_and rfl (ev_tmp rfl) (evif_w rfl)) ?_
                refine sq_plain rfl rfl rfl (w_move rfl (ev_tmp rfl)) ?_
                refine sq_grd rfl rfl (guard_f rfl rfl rfl) (fun hc => w_move rfl (ev_tmp rfl)) ?_
                refine sq_grd rfl rfl (guard_f rfl rfl rfl) (fun hc => w_not rfl (ev_whn rfl hc)) ?_
                refine sq_grd rfl rfl (guard_f rfl rfl rfl) (fun hc => w_move rfl (ev_whn rfl hc)) ?_
                refine sq_grd rfl rfl (guard_wt rfl rfl rfl) (fun hc => w_move rfl (ev_tmp rfl)) ?_
                refine sq_grd rfl rfl (guard_wt rfl rfl rfl) (fun hc => w_llen rfl Try.underlying93 (ev_whn rfl hc)) ?_
                refine sq_grd rfl rfl (guard_wt rfl rfl rfl) (fun hc => w_lss rfl (ev_whn rfl hc) ev_ci) ?_
                refine sq_grd rfl rfl (guard_f rfl rfl rfl) (fun hc => w_and rfl (ev_whn rfl hc) (evif_w2 rfl hc)) ?_
                refine sq_plain rfl rfl rfl (w_or rfl (ev_tmp rfl) (evif_w rfl)) ?_
                refine sq_nil ?_
                refine awp_cond (ev_tmp rfl) ?_ ?_
                · intro h183
                  exfalso; have hft := final_take hg hxl; rw [hw] at hft; simp only [List.length_map] at h183; rw [hft] at h183; cases h183
                · intro h183
                  refine awp_skip ?_
                  refine awp_seq ?_
                  refine awp_region ?_
                  refine sq_plain rfl rfl rfl (w_move rfl (ev_tmp rfl)) ?_
                  refine sq_callG [] rfl rfl rfl rfl Try.call94 rfl (drawTakeLock_own more hb1) (evl_cons (ev_tmp rfl) evl_nil) rfl ?_
                  intro x186 ok186
                  obtain ⟨⟨l2, x2, v186⟩, hx186⟩ : ∃ z, x186 = z := ⟨_, rfl⟩
                  subst hx186
                  obtain ⟨hls2, hxk2⟩ := ok186
                  dsimp only at hls2 hxk2 ⊢
                  refine sq_plain rfl rfl rfl (w_move rfl (ev_tmp rfl)) ?_
                  refine sq_plain rfl rfl rfl (w_extract rfl (ev_tmp rfl) rfl) ?_
                  refine sq_plain rfl rfl rfl (w_extract rfl (ev_tmp rfl) rfl) ?_
                  refine sq_alloc rfl rfl rfl rfl Try.zeroValue96 rfl ?_
                  intro b29
                  refine sq_plain rfl rfl rfl (w_assign rfl (ev_tmp rfl)) ?_
                  refine sq_storeB0 0 rfl rfl rfl (ev_tmp rfl) (ev_tmp rfl) (as_agg _) rfl Try.sizeOf96 rfl ?_
                  refine sq_nil ?_
                  refine awp_seq ?_
                  refine AWP.le (le_sealD [1] 28 rfl rfl (lt_arr (List.mem_of_getElem? (i := 0) rfl) le_refl_e) gin_false) ?_
                  refine awp_region ?_
                  refine sq_plain rfl rfl rfl (w_move rfl (ev_tmp rfl)) ?_
                  refine sq_plain rfl rfl rfl (w_loadA 0 rfl (ev_tmp rfl) rfl Try.isAgg96 Try.sizeOf96 rfl) ?_
                  refine sq_plain rfl rfl rfl (w_call rfl Try.call93 rfl (takeR_spec _ _ (by first | assumption | omega) (by first | assumption | omega)) (evl_cons (ev_tmp rfl) (evl_cons (ev_tmp rfl) evl_nil))) ?_
                  refine sq_plain rfl rfl rfl (w_move rfl (ev_tmp rfl)) ?_
                  refine sq_plain rfl rfl rfl (w_extract rfl (ev_tmp rfl) rfl) ?_
                  refine sq_plain rfl rfl rfl (w_extract rfl (ev_tmp rfl) rfl) ?_
                  refine sq_plain rfl rfl rfl (w_assign rfl (ev_tmp rfl)) ?_
                  refine sq_plain rfl rfl rfl (w_assign rfl (ev_tmp rfl)) ?_
                  refine sq_nil ?_
                  refine awp_seq ?_
                  refine awp_region ?_
                  refine sq_plain rfl rfl rfl (w_move rfl (ev_tmp rfl)) ?_
                  refine sq_plain rfl rfl rfl (w_loadA 0 rfl (ev_tmp rfl) rfl Try.isAgg96 Try.sizeOf96 rfl) ?_
                  refine sq_plain rfl rfl rfl (w_call rfl Try.call95 rfl (takeS_spec _ _ (by first | assumption | omega) (by first | assumption | omega)) (evl_cons (ev_tmp rfl) (evl_cons (ev_tmp rfl) evl_nil))) ?_
                  refine sq_plain rfl rfl rfl (w_move rfl (ev_tmp rfl)) ?_
                  refine sq_plain rfl rfl rfl (w_extract rfl (ev_tmp rfl) rfl) ?_
                  refine sq_plain rfl rfl rfl (w_extract rfl (ev_tmp rfl) rfl) ?_
                  refine sq_plain rfl rfl rfl (w_assign rfl (ev_tmp rfl)) ?_
                  refine sq_plain rfl rfl rfl (w_assign rfl (ev_tmp rfl)) ?_
                  refine sq_nil ?_
                  refine awp_seq ?_
                  refine awp_region ?_
                  refine sq_plain rfl rfl rfl (w_move rfl (ev_tmp rfl)) ?_
                  refine sq_callG [] rfl rfl rfl rfl Try.call96 rfl (drawFreeLocks_own more hb1) (evl_cons (ev_tmp rfl) evl_nil) rfl ?_
                  intro x203 ok203
                  obtain ⟨⟨l3, n3, v203⟩, hx203⟩ : ∃ z, x203 = z := ⟨_, rfl⟩
                  subst hx203
                  obtain ⟨hls3, hn0, hn7⟩ := ok203
                  dsimp only at hls3 hn0 hn7 ⊢
                  have hll3 : l3.length ≤ 1000 := Nat.le_trans sizeL_len hls3
                  have hp3 := freeP_len l3 n3
                  have ho3 := ofP_len l3 n3
                  refine sq_plain rfl rfl rfl (w_move rfl (ev_tmp rfl)) ?_
                  refine sq_plain rfl rfl rfl (w_extract rfl (ev_tmp rfl) rfl) ?_
                  refine sq_plain rfl rfl rfl (w_extract rfl (ev_tmp rfl) rfl) ?_
                  refine sq_plain rfl rfl rfl (w_assign rfl (ev_tmp rfl)) ?_
                  refine sq_plain rfl rfl rfl (w_assign rfl (ev_tmp rfl)) ?_
                  refine sq_nil ?_
                  refine awp_seq ?_
                  refine AWP.le (le_sealD [0] 34 rfl rfl (lt_arr (List.mem_of_getElem? (i := 0) rfl) le_refl_e) gin_false) ?_
                  refine awp_region ?_
                  refine sq_plain rfl rfl rfl (w_move rfl (ev_tmp rfl)) ?_
                  refine sq_plain rfl rfl rfl (w_move rfl (ev_tmp rfl)) ?_
                  refine sq_plain rfl rfl rfl (w_call rfl Try.call92 rfl (freeP_spec _ _ (by first | assumption | omega)) (evl_cons (ev_tmp rfl) (evl_cons (ev_tmp rfl) evl_nil))) ?_
                  refine sq_plain rfl rfl rfl (w_move rfl (ev_tmp rfl)) ?_
                  refine sq_plain rfl rfl rfl (w_extract rfl (ev_tmp rfl) rfl) ?_
                  refine sq_plain rfl rfl rfl (w_extract rfl (ev_tmp rfl) rfl) ?_
                  refine sq_plain rfl rfl rfl (w_assign rfl (ev_tmp rfl)) ?_
                  refine sq_plain rfl rfl rfl (w_assign rfl (ev_tmp rfl)) ?_
                  refine sq_nil ?_
                  refine awp_seq ?_
                  refine awp_region ?_
                  refine sq_plain rfl rfl rfl (w_move rfl (ev_tmp rfl)) ?_
                  refine sq_plain rfl rfl rfl (w_move rfl (ev_tmp rfl)) ?_
                  refine sq_plain rfl rfl rfl (w_call rfl Try.call97 rfl (freePS_spec _ _ (by first | assumption | omega)) (evl_cons (ev_tmp rfl) (evl_cons (ev_tmp rfl) evl_nil))) ?_
                  refine sq_plain rfl rfl rfl (w_move rfl (ev_tmp rfl)) ?_
                  refine sq_plain rfl rfl rfl (w_extract rfl (ev_tmp rfl) rfl) ?_
                  refine sq_plain rfl rfl rfl (w_extract rfl (ev_tmp rfl) rfl) ?_
                  refine sq_plain rfl rfl rfl (w_assign rfl (ev_tmp rfl)) ?_
                  refine sq_plain rfl rfl rfl (w_assign rfl (ev_tmp rfl)) ?_
                  refine sq_nil ?_
                  refine awp_seq ?_
                  refine awp_region ?_
                  refine sq_plain rfl rfl rfl (w_move rfl (ev_tmp rfl)) ?_
                  refine sq_plain rfl rfl rfl (w_move rfl (ev_tmp rfl)) ?_
                  refine sq_plain rfl rfl rfl (w_call rfl Try.call98 rfl (ofP_spec _ _ (by first | assumption | omega)) (evl_cons (ev_tmp rfl) (evl_cons (ev_tmp rfl) evl_nil))) ?_
                  refine sq_plain rfl rfl rfl (w_move rfl (ev_tmp rfl)) ?_
                  refine sq_plain rfl rfl rfl (w_extract rfl (ev_tmp rfl) rfl) ?_
                  refine sq_plain rfl rfl rfl (w_extract rfl (ev_tmp rfl) rfl) ?_
                  refine sq_plain rfl rfl rfl (w_assign rfl (ev_tmp rfl)) ?_
                  refine sq_plain rfl rfl rfl (w_assign rfl (ev_tmp rfl)) ?_
                  refine sq_nil ?_
                  refine awp_seq ?_
                  refine awp_region ?_
                  refine sq_plain rfl rfl rfl (w_move rfl (ev_tmp rfl)) ?_
                  refine sq_plain rfl rfl rfl (w_move rfl (ev_tmp rfl)) ?_
                  refine sq_plain rfl rfl rfl (w_call rfl Try.call99 rfl (ofPS_spec _ _ (by first | assumption | omega)) (evl_cons (ev_tmp rfl) (evl_cons (ev_tmp rfl) evl_nil))) ?_
                  refine sq_plain rfl rfl rfl (w_move rfl (ev_tmp rfl)) ?_
                  refine sq_plain rfl rfl rfl (w_extract rfl (ev_tmp rfl) rfl) ?_
                  refine sq_plain rfl rfl rfl (w_extract rfl (ev_tmp rfl) rfl) ?_
                  refine sq_plain rfl rfl rfl (w_assign rfl (ev_tmp rfl)) ?_
                  refine sq_plain rfl rfl rfl (w_assign rfl (ev_tmp rfl)) ?_
                  refine sq_nil ?_
                  refine awp_seq ?_
                  refine awp_region ?_
                  refine sq_plain rfl rfl rfl (w_move rfl (ev_tmp rfl)) ?_
                  refine sq_plain rfl rfl rfl (w_move rfl (ev_tmp rfl)) ?_
                  refine sq_plain rfl rfl rfl (w_beql rfl Try.underlying4 (ev_tmp rfl) (ev_tmp rfl)) ?_
                  refine sq_plain rfl rfl rfl (w_move rfl (ev_tmp rfl)) ?_
                  refine sq_grd rfl rfl (guard_t rfl rfl rfl) (fun hc => w_move rfl (ev_tmp rfl)) ?_
                  refine sq_grd rfl rfl (guard_t rfl rfl rfl) (fun hc => w_move rfl (ev_tmp rfl)) ?_
                  refine sq_grd rfl rfl (guard_t rfl rfl rfl) (fun hc => w_call rfl Try.call100 rfl (pSameLocks_spec _ _) (evl_cons (ev_whn rfl hc) (evl_cons (ev_whn rfl hc) evl_nil))) ?_
                  refine sq_plain rfl rfl rfl (w_and rfl (ev_tmp rfl) (evif_w rfl)) ?_
                  refine sq_plain rfl rfl rfl (w_move rfl (ev_tmp rfl)) ?_
                  refine sq_grd rfl rfl (guard_t rfl rfl rfl) (fun hc => w_move rfl (ev_tmp rfl)) ?_
                  refine sq_grd rfl rfl (guard_t rfl rfl rfl) (fun hc => w_move rfl (ev_tmp rfl)) ?_
                  refine sq_grd rfl rfl (guard_t rfl rfl rfl) (fun hc => w_beql rfl Try.underlying4 (ev_whn rfl hc) (ev_whn rfl hc)) ?_
                  refine sq_plain rfl rfl rfl (w_and rfl (ev_tmp rfl) (evif_w rfl)) ?_
                  refine sq_plain rfl rfl rfl (w_move rfl (ev_tmp rfl)) ?_
                  refine sq_grd rfl rfl (guard_t rfl rfl rfl) (fun hc => w_move rfl (ev_tmp rfl)) ?_
                  refine sq_grd rfl rfl (guard_t rfl rfl rfl) (fun hc => w_move rfl (ev_tmp rfl)) ?_
                  refine sq_grd rfl rfl (guard_t rfl rfl rfl) (fun hc => w_call rfl Try.call100 rfl (pSameLocks_spec _ _) (evl_cons (ev_whn rfl hc) (evl_cons (ev_whn rfl hc) evl_nil))) ?_
                  refine sq_plain rfl rfl rfl (w_and rfl (ev_tmp rfl) (evif_w rfl)) ?_
                  refine sq_plain rfl rfl rfl (w_move rfl (ev_tmp rfl)) ?_
                  refine sq_grd rfl rfl (guard_t rfl rfl rfl) (fun hc => w_move rfl (ev_tmp rfl)) ?_
                  refine sq_grd rfl rfl (guard_t rfl rfl rfl) (fun hc => w_move rfl (ev_tmp rfl)) ?_
                  refine sq_grd rfl rfl (guard_t rfl rfl rfl) (fun hc => w_beql rfl Try.underlying4 (ev_whn rfl hc) (ev_whn rfl hc)) ?_
                  refine sq_plain rfl rfl rfl (w_and rfl (ev_tmp rfl) (evif_w rfl)) ?_
                  refine sq_plain rfl rfl rfl (w_move rfl (ev_tmp rfl)) ?_
                  refine sq_grd rfl rfl (guard_t rfl rfl rfl) (fun hc => w_move rfl (ev_tmp rfl)) ?_
                  refine sq_grd rfl rfl (guard_t rfl rfl rfl) (fun hc => w_move rfl (ev_tmp rfl)) ?_
                  refine sq_grd rfl rfl (guard_t rfl rfl rfl) (fun hc => w_call rfl Try.call100 rfl (pSameLocks_spec _ _) (evl_cons (ev_whn rfl hc) (evl_cons (ev_whn rfl hc) evl_nil))) ?_
                  refine sq_plain rfl rfl rfl (w_and rfl (ev_tmp rfl) (evif_w rfl)) ?_
                  refine sq_plain rfl rfl rfl (w_move rfl (ev_tmp rfl)) ?_
                  refine sq_grd rfl rfl (guard_t rfl rfl rfl) (fun hc => w_move rfl (ev_tmp rfl)) ?_
                  refine sq_grd rfl rfl (guard_t rfl rfl rfl) (fun hc => w_not rfl (ev_whn rfl hc)) ?_
                  refine sq_grd rfl rfl (guard_t rfl rfl rfl) (fun hc => w_move rfl (ev_whn rfl hc)) ?_
                  refine sq_grd rfl rfl (guard_wf rfl rfl rfl) (fun hc => w_move rfl (ev_tmp rfl)) ?_
                  refine sq_grd rfl rfl (guard_wf rfl rfl rfl) (fun hc => w_llen rfl Try.underlying93 (ev_whn rfl hc)) ?_
                  refine sq_grd rfl rfl (guard_wf rfl rfl rfl) (fun hc => w_move rfl (ev_tmp rfl)) ?_
                  refine sq_grd rfl rfl (guard_wf rfl rfl rfl) (fun hc => w_llen rfl Try.underlying93 (ev_whn rfl hc)) ?_
                  refine sq_grd rfl rfl (guard_wf rfl rfl rfl) (fun hc => w_addi rfl (ev_whn rfl hc) (ev_whn rfl hc) (by first | omega | ((try simp only [List.length_map, List.length_take, List.length_cons, List.length_nil, chunks_len, szR] at *); omega) | (have hc2 := hc; simp only [Bool.and_eq_true, Bool.or_eq_true, Bool.or_eq_false_iff, Bool.and_eq_false_iff, Bool.not_eq_true', Bool.not_eq_false', decide_eq_true_eq, decide_eq_false_iff_not, beq_iff_eq, bne_iff_ne, List.length_map, List.length_take] at hc2; omega))) ?_
                  refine sq_grd rfl rfl (guard_wf rfl rfl rfl) (fun hc => w_move rfl (ev_tmp rfl)) ?_
                  refine sq_grd rfl rfl (guard_wf rfl rfl rfl) (fun hc => w_llen rfl Try.underlying93 (ev_whn rfl hc)) ?_
                  refine sq_grd rfl rfl (guard_wf rfl rfl rfl) (fun hc => w_eql rfl (ev_whn rfl hc) (ev_whn rfl hc)) ?_
                  refine sq_grd rfl rfl (guard_t rfl rfl rfl) (fun hc => w_or rfl (ev_whn rfl hc) (evif_w2 rfl hc)) ?_
                  refine sq_plain rfl rfl rfl (w_and rfl (ev_tmp rfl) (evif_w rfl)) ?_
                  refine sq_plain rfl rfl rfl (w_assign rfl (ev_tmp rfl)) ?_
                  refine sq_nil ?_
                  refine awp_ret ?_
                  exact retR rfl (rv_tmp' rfl (by first | rfl | exact congrArg AV.bool (by have hpl := parts_law l3 n3; simp only [List.length_map] at hpl ⊢; rw [take_eq, hpl]; simp)))
      · intro h96
        refine awp_skip ?_
        refine awp_seq ?_
        refine awp_region ?_
        refine sq_plain rfl rfl rfl (w_move rfl (ev_tmp rfl)) ?_
        refine sq_callG [] rfl rfl rfl rfl Try.call94 rfl (drawTakeLock_own more hb1) (evl_cons (ev_tmp rfl) evl_nil) rfl ?_
        intro x186 ok186
        obtain ⟨⟨l2, x2, v186⟩, hx186⟩ : ∃ z, x186 = z := ⟨_, rfl⟩
        subst hx186
        obtain ⟨hls2, hxk2⟩ := ok186
        dsimp only at hls2 hxk2 ⊢
        refine sq_plain rfl rfl rfl (w_move rfl (ev_tmp rfl)) ?_
        refine sq_plain rfl rfl rfl (w_extract rfl (ev_tmp rfl) rfl) ?_
        refine sq_plain rfl rfl rfl (w_extract rfl (ev_tmp rfl) rfl) ?_
        refine sq_alloc rfl rfl rfl rfl Try.zeroValue96 rfl ?_
        intro b29
        refine sq_plain rfl rfl rfl (w_assign rfl (ev_tmp rfl)) ?_
        refine sq_storeB0 0 rfl rfl rfl (ev_tmp rfl) (ev_tmp rfl) (as_agg _) rfl Try.sizeOf96 rfl ?_
        refine sq_nil ?_
        refine awp_seq ?_
        refine AWP.le (le_sealD [1] 28 rfl rfl (lt_arr (List.mem_of_getElem? (i := 0) rfl) le_refl_e) gin_false) ?_
        refine awp_region ?_
        refine sq_plain rfl rfl rfl (w_move rfl (ev_tmp rfl)) ?_
        refine sq_plain rfl rfl rfl (w_loadA 0 rfl (ev_tmp rfl) rfl Try.isAgg96 Try.sizeOf96 rfl) ?_
        refine sq_plain rfl rfl rfl (w_call rfl Try.call93 rfl (takeR_spec _ _ (by first | assumption | omega) (by first | assumption | omega)) (evl_cons (ev_tmp rfl) (evl_cons (ev_tmp rfl) evl_nil))) ?_
        refine sq_plain rfl rfl rfl (w_move rfl (ev_tmp rfl)) ?_
        refine sq_plain rfl rfl rfl (w_extract rfl (ev_tmp rfl) rfl) ?_
        refine sq_plain rfl rfl rfl (w_extract rfl (ev_tmp rfl) rfl) ?_
        refine sq_plain rfl rfl rfl (w_assign rfl (ev_tmp rfl)) ?_
        refine sq_plain rfl rfl rfl (w_assign rfl (ev_tmp rfl)) ?_
        refine sq_nil ?_
        refine awp_seq ?_
        refine awp_region ?_
        refine sq_plain rfl rfl rfl (w_move rfl (ev_tmp rfl)) ?_
        refine sq_plain rfl rfl rfl (w_loadA 0 rfl (ev_tmp rfl) rfl Try.isAgg96 Try.sizeOf96 rfl) ?_
        refine sq_plain rfl rfl rfl (w_call rfl Try.call95 rfl (takeS_spec _ _ (by first | assumption | omega) (by first | assumption | omega)) (evl_cons (ev_tmp rfl) (evl_cons (ev_tmp rfl) evl_nil))) ?_
        refine sq_plain rfl rfl rfl (w_move rfl (ev_tmp rfl)) ?_
        refine sq_plain rfl rfl rfl (w_extract rfl (ev_tmp rfl) rfl) ?_
        refine sq_plain rfl rfl rfl (w_extract rfl (ev_tmp rfl) rfl) ?_
        refine sq_plain rfl rfl rfl (w_assign rfl (ev_tmp rfl)) ?_
        refine sq_plain rfl rfl rfl (w_assign rfl (ev_tmp rfl)) ?_
        refine sq_nil ?_
        refine awp_seq ?_
        refine awp_region ?_
        refine sq_plain rfl rfl rfl (w_move rfl (ev_tmp rfl)) ?_
        refine sq_callG [] rfl rfl rfl rfl Try.call96 rfl (drawFreeLocks_own more hb1) (evl_cons (ev_tmp rfl) evl_nil) rfl ?_
        intro x203 ok203
        obtain ⟨⟨l3, n3, v203⟩, hx203⟩ : ∃ z, x203 = z := ⟨_, rfl⟩
        subst hx203
        obtain ⟨hls3, hn0, hn7⟩ := ok203
        dsimp only at hls3 hn0 hn7 ⊢
        have hll3 : l3.length ≤ 1000 := Nat.le_trans sizeL_len hls3
        have hp3 := freeP_len l3 n3
        have ho3 := ofP_len l3 n3
        refine sq_plain rfl rfl rfl (w_move rfl (ev_tmp rfl)) ?_
        refine sq_plain rfl rfl rfl (w_extract rfl (ev_tmp rfl) rfl) ?_
        refine sq_plain rfl rfl rfl (w_extract rfl (ev_tmp rfl) rfl) ?_
        refine sq_plain rfl rfl rfl (w_assign rfl (ev_tmp rfl)) ?_
        refine sq_plain rfl rfl rfl (w_assign rfl (ev_tmp rfl)) ?_
        refine sq_nil ?_
        refine awp_seq ?_
        refine AWP.le (le_sealD [0] 34 rfl rfl (lt_arr (List.mem_of_getElem? (i := 0) rfl) le_refl_e) gin_false) ?_
        refine awp_region ?_
        refine sq_plain rfl rfl rfl (w_move rfl (ev_tmp rfl)) ?_
        refine sq_plain rfl rfl rfl (w_move rfl (ev_tmp rfl)) ?_
        refine sq_plain rfl rfl rfl (w_call rfl Try.call92 rfl (freeP_spec _ _ (by first | assumption | omega)) (evl_cons (ev_tmp rfl) (evl_cons (ev_tmp rfl) evl_nil))) ?_
        refine sq_plain rfl rfl rfl (w_move rfl (ev_tmp rfl)) ?_
        refine sq_plain rfl rfl rfl (w_extract rfl (ev_tmp rfl) rfl) ?_
        refine sq_plain rfl rfl rfl (w_extract rfl (ev_tmp rfl) rfl) ?_
        refine sq_plain rfl rfl rfl (w_assign rfl (ev_tmp rfl)) ?_
        refine sq_plain rfl rfl rfl (w_assign rfl (ev_tmp rfl)) ?_
        refine sq_nil ?_
        refine awp_seq ?_
        refine awp_region ?_
        refine sq_plain rfl rfl rfl (w_move rfl (ev_tmp rfl)) ?_
        refine sq_plain rfl rfl rfl (w_move rfl (ev_tmp rfl)) ?_
        refine sq_plain rfl rfl rfl (w_call rfl Try.call97 rfl (freePS_spec _ _ (by first | assumption | omega)) (evl_cons (ev_tmp rfl) (evl_cons (ev_tmp rfl) evl_nil))) ?_
        refine sq_plain rfl rfl rfl (w_move rfl (ev_tmp rfl)) ?_
        refine sq_plain rfl rfl rfl (w_extract rfl (ev_tmp rfl) rfl) ?_
        refine sq_plain rfl rfl rfl (w_extract rfl (ev_tmp rfl) rfl) ?_
        refine sq_plain rfl rfl rfl (w_assign rfl (ev_tmp rfl)) ?_
        refine sq_plain rfl rfl rfl (w_assign rfl (ev_tmp rfl)) ?_
        refine sq_nil ?_
        refine awp_seq ?_
        refine awp_region ?_
        refine sq_plain rfl rfl rfl (w_move rfl (ev_tmp rfl)) ?_
        refine sq_plain rfl rfl rfl (w_move rfl (ev_tmp rfl)) ?_
        refine sq_plain rfl rfl rfl (w_call rfl Try.call98 rfl (ofP_spec _ _ (by first | assumption | omega)) (evl_cons (ev_tmp rfl) (evl_cons (ev_tmp rfl) evl_nil))) ?_
        refine sq_plain rfl rfl rfl (w_move rfl (ev_tmp rfl)) ?_
        refine sq_plain rfl rfl rfl (w_extract rfl (ev_tmp rfl) rfl) ?_
        refine sq_plain rfl rfl rfl (w_extract rfl (ev_tmp rfl) rfl) ?_
        refine sq_plain rfl rfl rfl (w_assign rfl (ev_tmp rfl)) ?_
        refine sq_plain rfl rfl rfl (w_assign rfl (ev_tmp rfl)) ?_
        refine sq_nil ?_
        refine awp_seq ?_
        refine awp_region ?_
        refine sq_plain rfl rfl rfl (w_move rfl (ev_tmp rfl)) ?_
        refine sq_plain rfl rfl rfl (w_move rfl (ev_tmp rfl)) ?_
        refine sq_plain rfl rfl rfl (w_call rfl Try.call99 rfl (ofPS_spec _ _ (by first | assumption | omega)) (evl_cons (ev_tmp rfl) (evl_cons (ev_tmp rfl) evl_nil))) ?_
        refine sq_plain rfl rfl rfl (w_move rfl (ev_tmp rfl)) ?_
        refine sq_plain rfl rfl rfl (w_extract rfl (ev_tmp rfl) rfl) ?_
        refine sq_plain rfl rfl rfl (w_extract rfl (ev_tmp rfl) rfl) ?_
        refine sq_plain rfl rfl rfl (w_assign rfl (ev_tmp rfl)) ?_
        refine sq_plain rfl rfl rfl (w_assign rfl (ev_tmp rfl)) ?_
        refine sq_nil ?_
        refine awp_seq ?_
        refine awp_region ?_
        refine sq_plain rfl rfl rfl (w_move rfl (ev_tmp rfl)) ?_
        refine sq_plain rfl rfl rfl (w_move rfl (ev_tmp rfl)) ?_
        refine sq_plain rfl rfl rfl (w_beql rfl Try.underlying4 (ev_tmp rfl) (ev_tmp rfl)) ?_
        refine sq_plain rfl rfl rfl (w_move rfl (ev_tmp rfl)) ?_
        refine sq_grd rfl rfl (guard_t rfl rfl rfl) (fun hc => w_move rfl (ev_tmp rfl)) ?_
        refine sq_grd rfl rfl (guard_t rfl rfl rfl) (fun hc => w_move rfl (ev_tmp rfl)) ?_
        refine sq_grd rfl rfl (guard_t rfl rfl rfl) (fun hc => w_call rfl Try.call100 rfl (pSameLocks_spec _ _) (evl_cons (ev_whn rfl hc) (evl_cons (ev_whn rfl hc) evl_nil))) ?_
        refine sq_plain rfl rfl rfl (w_and rfl (ev_tmp rfl) (evif_w rfl)) ?_
        refine sq_plain rfl rfl rfl (w_move rfl (ev_tmp rfl)) ?_
        refine sq_grd rfl rfl (guard_t rfl rfl rfl) (fun hc => w_move rfl (ev_tmp rfl)) ?_
        refine sq_grd rfl rfl (guard_t rfl rfl rfl) (fun hc => w_move rfl (ev_tmp rfl)) ?_
        refine sq_grd rfl rfl (guard_t rfl rfl rfl) (fun hc => w_beql rfl Try.underlying4 (ev_whn rfl hc) (ev_whn rfl hc)) ?_
        refine sq_plain rfl rfl rfl (w_and rfl (ev_tmp rfl) (evif_w rfl)) ?_
        refine sq_plain rfl rfl rfl (w_move rfl (ev_tmp rfl)) ?_
        refine sq_grd rfl rfl (guard_t rfl rfl rfl) (fun hc => w_move rfl (ev_tmp rfl)) ?_
        refine sq_grd rfl rfl (guard_t rfl rfl rfl) (fun hc => w_move rfl (ev_tmp rfl)) ?_
        refine sq_grd rfl rfl (guard_t rfl rfl rfl) (fun hc => w_call rfl Try.call100 rfl (pSameLocks_spec _ _) (evl_cons (ev_whn rfl hc) (evl_cons (ev_whn rfl hc) evl_nil))) ?_
        refine sq_plain rfl rfl rfl (w_and rfl (ev_tmp rfl) (evif_w rfl)) ?_
        refine sq_plain rfl rfl rfl (w_move rfl (ev_tmp rfl)) ?_
        refine sq_grd rfl rfl (guard_t rfl rfl rfl) (fun hc => w_move rfl (ev_tmp rfl)) ?_
        refine sq_grd rfl rfl (guard_t rfl rfl rfl) (fun hc => w_move rfl (ev_tmp rfl)) ?_
        refine sq_grd rfl rfl (guard_t rfl rfl rfl) (fun hc => w_beql rfl Try.underlying4 (ev_whn rfl hc) (ev_whn rfl hc)) ?_
        refine sq_plain rfl rfl rfl (w_and rfl (ev_tmp rfl) (evif_w rfl)) ?_
        refine sq_plain rfl rfl rfl (w_move rfl (ev_tmp rfl)) ?_
        refine sq_grd rfl rfl (guard_t rfl rfl rfl) (fun hc => w_move rfl (ev_tmp rfl)) ?_
        refine sq_grd rfl rfl (guard_t rfl rfl rfl) (fun hc => w_move rfl (ev_tmp rfl)) ?_
        refine sq_grd rfl rfl (guard_t rfl rfl rfl) (fun hc => w_call rfl Try.call100 rfl (pSameLocks_spec _ _) (evl_cons (ev_whn rfl hc) (evl_cons (ev_whn rfl hc) evl_nil))) ?_
        refine sq_plain rfl rfl rfl (w_and rfl (ev_tmp rfl) (evif_w rfl)) ?_
        refine sq_plain rfl rfl rfl (w_move rfl (ev_tmp rfl)) ?_
        refine sq_grd rfl rfl (guard_t rfl rfl rfl) (fun hc => w_move rfl (ev_tmp rfl)) ?_
        refine sq_grd rfl rfl (guard_t rfl rfl rfl) (fun hc => w_not rfl (ev_whn rfl hc)) ?_
        refine sq_grd rfl rfl (guard_t rfl rfl rfl) (fun hc => w_move rfl (ev_whn rfl hc)) ?_
        refine sq_grd rfl rfl (guard_wf rfl rfl rfl) (fun hc => w_move rfl (ev_tmp rfl)) ?_
        refine sq_grd rfl rfl (guard_wf rfl rfl rfl) (fun hc => w_llen rfl Try.underlying93 (ev_whn rfl hc)) ?_
        refine sq_grd rfl rfl (guard_wf rfl rfl rfl) (fun hc => w_move rfl (ev_tmp rfl)) ?_
        refine sq_grd rfl rfl (guard_wf rfl rfl rfl) (fun hc => w_llen rfl Try.underlying93 (ev_whn rfl hc)) ?_
        refine sq_grd rfl rfl (guard_wf rfl rfl rfl) (fun hc => w_addi rfl (ev_whn rfl hc) (ev_whn rfl hc) (by first | omega | ((try simp only [List.length_map, List.length_take, List.length_cons, List.length_nil, chunks_len, szR] at *); omega) | (have hc2 := hc; simp only [Bool.and_eq_true, Bool.or_eq_true, Bool.or_eq_false_iff, Bool.and_eq_false_iff, Bool.not_eq_true', Bool.not_eq_false', decide_eq_true_eq, decide_eq_false_iff_not, beq_iff_eq, bne_iff_ne, List.length_map, List.length_take] at hc2; omega))) ?_
        refine sq_grd rfl rfl (guard_wf rfl rfl rfl) (fun hc => w_move rfl (ev_tmp rfl)) ?_
        refine sq_grd rfl rfl (guard_wf rfl rfl rfl) (fun hc => w_llen rfl Try.underlying93 (ev_whn rfl hc)) ?_
        refine sq_grd rfl rfl (guard_wf rfl rfl rfl) (fun hc => w_eql rfl (ev_whn rfl hc) (ev_whn rfl hc)) ?_
        refine sq_grd rfl rfl (guard_t rfl rfl rfl) (fun hc => w_or rfl (ev_whn rfl hc) (evif_w2 rfl hc)) ?_
        refine sq_plain rfl rfl rfl (w_and rfl (ev_tmp rfl) (evif_w rfl)) ?_
        refine sq_plain rfl rfl rfl (w_assign rfl (ev_tmp rfl)) ?_
        refine sq_nil ?_
        refine awp_ret ?_
        exact retR rfl (rv_tmp' rfl (by first | rfl | exact congrArg AV.bool (by have hpl := parts_law l3 n3; simp only [List.length_map] at hpl ⊢; rw [take_eq, hpl]; simp)))
end
theorem opens_bytes : Opens Try.prog 22 (List Int) (fun l => [bytesI l]) (fun l => ∀ x ∈ l, (Lit.int .u8 x).wf = true) := opens_slice (sz := 1) Try.underlying22 (by kernel_rfl) (opens_int Try.underlying5) (fun _ => rfl)
set_option maxRecDepth 100000 in
theorem fnLocks_lifted (os : Os) (started : os.Started) (H : Type) (enc : TypeId × Value → H) :
    ReturnsInHanded {} Try.checked os 9 .any (Rows.fnLocksSpec.pre6 enc Try.prog Try.f9 Rows.fnLocksRow.domain false) (Rows.fnLocksSpec.post enc Try.prog Try.f9 false true false false) := by
  refine returnsInHanded_of_change (C := Try.checked) (by kernel_rfl) started (by kernel_rfl) Try.func9
    (ChangeSpec.witness6 (enc := enc) (C := Try.checked) false ⟨#[], #[.slice none 0 0, .slice none 0 0], []⟩ 8 (by kernel_rfl) (by kernel_rfl) (by kernel_rfl) (by kernel_rfl)) ?_
  intro W base args ds gs before hval0 hW hcnd _
  have hval : ∀ (j : Nat) t v, Try.f9.params[j]? = some t → args[j]? = some v → Value.okWide Try.prog W .any base t v := hval0
  have hW2 := hW
  obtain ⟨p, q, hA0, hV, rfl, hfz, hnd⟩ := hW
  have hA : DataW.TrodAll enc Try.prog W 0 (fun _ => true) true Try.f9.params.toList args.toList ds p := hA0
  rw [Try.params9] at hA hval
  obtain ⟨v0, vs0, d0, ds0, p0, q0, hargs, rfl, rfl, h0, r0⟩ := trodAll_cons hA
  obtain ⟨v1, vs1, d1, ds1, p1, q1, rfl, rfl, rfl, h1, r1⟩ := trodAll_cons r0
  obtain ⟨rfl, rfl, rfl⟩ := trodAll_nil r1
  obtain rfl : args = #[v0, v1] := by cases args; simp_all
  obtain ⟨rfl, rfl⟩ := trodVars_none hV
  have lt0 : ∀ x ∈ p0, x.block < W.heap.size := by obtain ⟨m, hm⟩ := h0; exact DataW.trod_lt m _ _ _ hm
  obtain ⟨a0, w0, g0⟩ := arg_one (opens_bytes) (by obtain ⟨y1, y2, y3, rfl⟩ := okWide_slice Try.underlying22 (hval 0 22 v0 rfl rfl); rfl) h0
  have lt1 : ∀ x ∈ p1, x.block < W.heap.size := by obtain ⟨m, hm⟩ := h1; exact DataW.trod_lt m _ _ _ hm
  obtain ⟨a1, w1, g1⟩ := arg_one (opens_bytes) (by obtain ⟨y1, y2, y3, rfl⟩ := okWide_slice Try.underlying22 (hval 1 22 v1 rfl rfl); rfl) h1
  have hcall := law_calls (fnLocks_spec a0 w0 a1 w1) (DenV.cons g0 (DenV.cons g1 (DenV.nil _)))
  clear hA0 hval0
  refine Calls.mono hcall fun e W2 ⟨he, bel⟩ => ?_
  subst he
  exact ⟨_, rfl, _, _, _, [], _, [], hW2, trodAll_mk1 (shut_bool Try.underlying4 _), (trodAll_cons_mk (Below.trod (by kernel_rfl : laidOutB Try.prog = true) (by kernel_rfl) (of_decide_eq_true (by kernel_rfl)) h0 bel lt0) (trodAll_cons_mk (Below.trod (by kernel_rfl : laidOutB Try.prog = true) (by kernel_rfl) (of_decide_eq_true (by kernel_rfl)) h1 bel lt1) trodAll_mk0)), rfl, bel.frame _, fun h => by cases h⟩
theorem fnLocks_and {a b : Bool} (h : a = true) (k : b = true) : (a && b) = true := by rw [h, k]; rfl
set_option maxRecDepth 100000 in
theorem fnLocks_facts : joinedFacts Try.pinned.checked.prog 9 Try.f9 Rows.fnLocksSpec Rows.fnLocksRow = true := by
  unfold joinedFacts
  iterate 18 (rw [Bool.and_assoc])
  refine fnLocks_and ?_ ?_
  · as_aux_lemma => kernel_rfl
  · as_aux_lemma => kernel_rfl
/-- The statement. -/
theorem fnLocks_proved : Rows.FnLocksSaid :=
  OpenClaim.holds_of_wide 9 Try.f9 rfl rfl rfl rfl rfl rfl rfl ⟨rfl, rfl, rfl, rfl, rfl⟩ rfl rfl rfl rfl rfl (by kernel_rfl) Try.func9 fnLocks_facts
    (of_decide_eq_true (by kernel_rfl)) (by unfold Func.isWrapper; first | (rw [if_pos (by decide +kernel)]; kernel_rfl) | (rw [if_neg (by decide +kernel)]; exact ⟨rfl, rfl⟩))
    (fun os started H enc _ => fnLocks_lifted os started H enc)
end Go.Proofs.Yteliahajeokciaa
