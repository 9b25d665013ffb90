/- FnMend: for every drawn repaired disk, further frames can be appended, and all frames are read back; the program answers what the reference answers. No condition. -/
import Derived.ProofKit
import Derived.OpenShut
import Derived.ShutString
import Derived.ChangeOld
import Derived.Test.YteliahajeokciaaZMend3

set_option linter.unusedVariables false
set_option linter.unusedSimpArgs false
set_option maxRecDepth 100000
set_option maxHeartbeats 1000000
namespace Go.Proofs.Yteliahajeokciaa
open Go Go.AV Go.M
attribute [local irreducible] OpW OpA OpS AWP FSpec ESpec GSpec OpE RetOk RetOkG RvDen Le Ev GuardIs SrcIs Int.tmod Int.tdiv IntKind.wrap bandI
theorem l6Make_own (b : Nat) (code : List Int) (hcode : ByteL code) (c : TCur) (hp : c.p ≤ 4000000) : GSpec Try.prog 270 [AV.ptr b 0] [.box b 123 (curC code c)] (fun x : TCur × TDisk => x.1.p ≤ c.p + 30 ∧ goodDisk x.2 = true) (fun x => [.box b 123 (curC code x.1)]) (fun x => AV.agg x.2.cs) := by
  refine gspec_of_awp Try.func270 rfl Try.ntmps270 rfl ?_
  refine awp_seq ?_
  refine awp_region ?_
  refine sq_alloc rfl rfl rfl rfl Try.zeroValue43 rfl ?_
  intro b2
  refine sq_nil ?_
  refine awp_seq ?_
  refine awp_region ?_
  refine sq_plain rfl rfl rfl (w_build (places := #[(0, 1), (1, 1)]) rfl Try.underlying43 Try.zeroValue43 (fun w => by kernel_rfl) rfl bp_nil rfl) ?_
  refine sq_alloc rfl rfl rfl rfl Try.zeroValue43 rfl ?_
  intro b3
  refine sq_storeB0 0 rfl rfl rfl (ev_tmp rfl) (ev_tmp rfl) (as_agg _) rfl Try.sizeOf43 rfl ?_
  refine sq_nil ?_
  refine awp_seq ?_
  refine awp_region ?_
  refine sq_plain rfl rfl rfl (w_move rfl (ev_tmp rfl)) ?_
  refine sq_callG [2] rfl rfl rfl rfl Try.call131 rfl (curPick_own _ _ hcode _ _ (by omega) (by omega)) (evl_cons (ev_tmp rfl) (evl_cons ev_ci evl_nil)) rfl ?_
  intro x10 ok10
  refine sq_plain rfl rfl rfl (w_assign rfl (ev_tmp rfl)) ?_
  refine sq_nil ?_
  refine awp_seq ?_
  refine awp_seq ?_
  refine awp_region ?_
  refine sq_plain rfl rfl rfl (w_assign rfl ev_ci) ?_
  refine sq_nil ?_
  refine awp_block ?_
  refine awp_own (by first | (simp only [id, pick, List.eraseIdx_cons_zero, List.eraseIdx_cons_succ, List.set_cons_zero, List.set_cons_succ, List.cons_append, List.nil_append, List.getElem?_cons_zero, List.getElem?_cons_succ, List.append_nil, List.take_succ_cons, List.take_zero, List.drop_succ_cons, List.drop_zero]; exact rfl) | exact rfl) ?_
  refine AWP.le (le_pick [0, 0] rfl) ?_
  refine awp_loop_i3 [(0, _), (2, _), (3, _), (4, _)] _ (fun (i : Nat) (cc : TCur) (d : TDisk) => (i ≤ 4 ∧ cc.p ≤ c.p + 2 + 6 * i) ∧ goodDisk d = true) (fun (i : Nat) (cc : TCur) (d : TDisk) => [.box b 123 (curC code cc), .box b3 43 (TDisk.cs d)]) (fun (i : Nat) (cc : TCur) (d : TDisk) => [(5, AV.int i)]) (fun (i : Nat) (cc : TCur) (d : TDisk) => 5 - i) (0) (x10.1) (emptyD) ?_ (le_eq (by rfl) ⟨rfl, rfl, rfl, rfl, rfl, trivial⟩) ?_
  · exact ⟨⟨by omega, by omega⟩, rfl⟩
  intro i cc d hinv
  have hds := goodD_size hinv.2
  refine awp_seq ?_
  refine awp_seq ?_
  refine awp_region ?_
  refine sq_plain rfl rfl rfl (w_move rfl (ev_tmp rfl)) ?_
  refine sq_plain rfl rfl rfl (w_move rfl (ev_tmp rfl)) ?_
  refine sq_plain rfl rfl rfl (w_lss rfl (ev_tmp rfl) (ev_tmp rfl)) ?_
  refine sq_nil ?_
  refine awp_cond (ev_tmp rfl) ?_ ?_
  · intro h13
    have k13 := of_decide_eq_true h13; try simp only [List.length_map] at k13
    refine awp_skip ?_
    refine awp_seq ?_
    refine awp_block ?_
    refine awp_seq ?_
    refine awp_seq ?_
    refine AWP.le (le_pick [1, 0] rfl) ?_
    refine awp_region_tree _ 9 (.pure 0 (.pure 1 (.e2 2 (.pure 3 (.pure 4 (.pure 5 (.pure 6 (.e1 7 (.e1 8 .nil)))))) 7 (.e1 2 (.pure 3 (.pure 4 (.pure 5 (.pure 6 (.e1 8 .nil))))))))) (by kernel_rfl) (by kernel_rfl) rfl (invx_take 1) ?_
    refine bt_plain rfl rfl rfl (fun ext => w_loadA 0 rfl (ev_tmp rfl) rfl Try.isAgg43 Try.sizeOf43 rfl) ?_
    refine bt_plain rfl rfl rfl (fun ext => w_move rfl (ev_tmp rfl)) ?_
    refine bt_e2 ?_ ?_
    · refine eff_s rfl rfl rfl (opE_call [1] rfl Try.call292 rfl (l6Text_own _ _ hcode _ (by omega)) (evl_cons (ev_tmp rfl) evl_nil) rfl) (fun a _ => (by first | exact invx_mk rfl | exact invx_mk (List.append_assoc _ _ _) | exact invx_all)) ?_
      intro x19 ok19
      refine bt_plain rfl rfl rfl (fun ext => w_call rfl Try.call291 rfl (writeDiskS_spec d x19.2 (by omega) (by omega)) (evl_cons (ev_tmp rfl) (evl_cons (ev_tmp rfl) evl_nil))) ?_
      refine bt_plain rfl rfl rfl (fun ext => w_move rfl (ev_tmp rfl)) ?_
      refine bt_plain rfl rfl rfl (fun ext => w_extract rfl (ev_tmp rfl) rfl) ?_
      refine bt_plain rfl rfl rfl (fun ext => w_extract rfl (ev_tmp rfl) rfl) ?_
      refine bt_e1 ?_
      refine eff_s rfl rfl rfl (opE_alloc rfl Try.zeroValue43 rfl) (fun a _ => (by first | exact invx_mk rfl | exact invx_mk (List.append_assoc _ _ _) | exact invx_all)) ?_
      intro b6 _
      refine bt_e1 ?_
      refine eff_s0 rfl rfl rfl (opE_storeB0 3 rfl rfl (ev_tmp rfl) (ev_tmp rfl) (as_agg _) rfl Try.sizeOf43 rfl) (fun a _ => (by first | exact invx_mk rfl | exact invx_mk (List.append_assoc _ _ _) | exact invx_all)) ?_
      intro _ _
      refine bt_nil ?_
      refine sq_plain rfl rfl rfl (w_assign rfl (ev_tmp rfl)) ?_
      refine sq_nil ?_
      refine awp_seq ?_
      refine awp_own (by first | (simp only [id, pick, List.eraseIdx_cons_zero, List.eraseIdx_cons_succ, List.set_cons_zero, List.set_cons_succ, List.cons_append, List.nil_append, List.getElem?_cons_zero, List.getElem?_cons_succ, List.append_nil, List.take_succ_cons, List.take_zero, List.drop_succ_cons, List.drop_zero]; exact rfl) | exact rfl) ?_
      refine awp_region ?_
      refine sq_plain rfl rfl rfl (w_move rfl (ev_tmp rfl)) ?_
      refine sq_nil ?_
      refine awp_cond (ev_tmp rfl) ?_ ?_
      · intro h23
        refine awp_region ?_
        refine sq_plain rfl rfl rfl (w_loadA 3 rfl (ev_tmp rfl) rfl Try.isAgg43 Try.sizeOf43 rfl) ?_
        refine sq_storeB0 0 rfl rfl rfl (ev_tmp rfl) (ev_tmp rfl) (as_agg _) rfl Try.sizeOf43 rfl ?_
        refine sq_nil ?_
        refine awp_seq ?_
        refine awp_region ?_
        refine sq_plain rfl rfl rfl (w_move rfl (ev_tmp rfl)) ?_
        refine sq_callG [2] rfl rfl rfl rfl Try.call170 rfl (curOne_own _ _ hcode _ _ (by omega) (by omega)) (evl_cons (ev_tmp rfl) (evl_cons ev_ci evl_nil)) rfl ?_
        intro x26 ok26
        refine sq_nil ?_
        refine awp_cond (ev_tmp rfl) ?_ ?_
        · intro h26
          refine awp_region ?_
          refine sq_plain rfl rfl rfl (w_loadA 1 rfl (ev_tmp rfl) rfl Try.isAgg43 Try.sizeOf43 rfl) ?_
          refine sq_plain rfl rfl rfl (w_call rfl Try.call293 rfl ((by first | exact syncDiskS_spec (writeD d x19.2).1 (by have := goodD_size (writeD_good d x19.2); omega) | exact syncDiskS_spec d (by omega))) (evl_cons (ev_tmp rfl) evl_nil)) ?_
          refine sq_plain rfl rfl rfl (w_move rfl (ev_tmp rfl)) ?_
          refine sq_plain rfl rfl rfl (w_extract rfl (ev_tmp rfl) rfl) ?_
          refine sq_plain rfl rfl rfl (w_extract rfl (ev_tmp rfl) rfl) ?_
          refine sq_storeB0 1 rfl rfl rfl (ev_tmp rfl) (ev_tmp rfl) (as_agg _) rfl Try.sizeOf43 rfl ?_
          refine sq_nil ?_
          refine awp_region ?_
          refine sq_plain rfl rfl rfl (w_move rfl (ev_tmp rfl)) ?_
          refine sq_plain rfl rfl rfl (w_addi rfl (ev_tmp rfl) ev_ci (by first | omega | ((try simp only [List.length_map, List.length_take, List.length_cons, List.length_nil, chunks_len, szR] at *); omega) | (have hc2 := hc; simp only [Bool.and_eq_true, Bool.or_eq_true, Bool.or_eq_false_iff, Bool.and_eq_false_iff, Bool.not_eq_true', Bool.not_eq_false', decide_eq_true_eq, decide_eq_false_iff_not, beq_iff_eq, bne_iff_ne, List.length_map, List.length_take] at hc2; omega))) ?_
          refine sq_plain rfl rfl rfl (w_assign rfl (ev_tmp rfl)) ?_
          refine sq_nil ?_
          refine round_end3 i cc d (i + 1) (x26.1) ((syncS (writeD d x19.2).1).1) ?_ ?_ (Le.trans (le_pick [3, 0, 0] rfl) (le_dropeq 1 (by rfl) ⟨rfl, rfl, rfl, rfl, rfl, trivial⟩))
          · exact ⟨⟨by omega, by omega⟩, syncS_good⟩
          · omega
        · intro h26
          refine awp_skip ?_
          refine awp_region ?_
          refine sq_plain rfl rfl rfl (w_move rfl (ev_tmp rfl)) ?_
          refine sq_plain rfl rfl rfl (w_addi rfl (ev_tmp rfl) ev_ci (by first | omega | ((try simp only [List.length_map, List.length_take, List.length_cons, List.length_nil, chunks_len, szR] at *); omega) | (have hc2 := hc; simp only [Bool.and_eq_true, Bool.or_eq_true, Bool.or_eq_false_iff, Bool.and_eq_false_iff, Bool.not_eq_true', Bool.not_eq_false', decide_eq_true_eq, decide_eq_false_iff_not, beq_iff_eq, bne_iff_ne, List.length_map, List.length_take] at hc2; omega))) ?_
          refine sq_plain rfl rfl rfl (w_assign rfl (ev_tmp rfl)) ?_
          refine sq_nil ?_
          refine round_end3 i cc d (i + 1) (x26.1) ((writeD d x19.2).1) ?_ ?_ (Le.trans (le_pick [3, 0, 0] rfl) (le_dropeq 1 (by rfl) ⟨rfl, rfl, rfl, rfl, rfl, trivial⟩))
          · exact ⟨⟨by omega, by omega⟩, writeD_good _ _⟩
          · omega
      · intro h23
        refine awp_skip ?_
        refine awp_seq ?_
        refine awp_region ?_
        refine sq_plain rfl rfl rfl (w_move rfl (ev_tmp rfl)) ?_
        refine sq_callG [2] rfl rfl rfl rfl Try.call170 rfl (curOne_own _ _ hcode _ _ (by omega) (by omega)) (evl_cons (ev_tmp rfl) (evl_cons ev_ci evl_nil)) rfl ?_
        intro x26 ok26
        refine sq_nil ?_
        refine awp_cond (ev_tmp rfl) ?_ ?_
        · intro h26
          refine awp_region ?_
          refine sq_plain rfl rfl rfl (w_loadA 1 rfl (ev_tmp rfl) rfl Try.isAgg43 Try.sizeOf43 rfl) ?_
          refine sq_plain rfl rfl rfl (w_call rfl Try.call293 rfl ((by first | exact syncDiskS_spec (writeD d x19.2).1 (by have := goodD_size (writeD_good d x19.2); omega) | exact syncDiskS_spec d (by omega))) (evl_cons (ev_tmp rfl) evl_nil)) ?_
          refine sq_plain rfl rfl rfl (w_move rfl (ev_tmp rfl)) ?_
          refine sq_plain rfl rfl rfl (w_extract rfl (ev_tmp rfl) rfl) ?_
          refine sq_plain rfl rfl rfl (w_extract rfl (ev_tmp rfl) rfl) ?_
          refine sq_storeB0 1 rfl rfl rfl (ev_tmp rfl) (ev_tmp rfl) (as_agg _) rfl Try.sizeOf43 rfl ?_
          refine sq_nil ?_
          refine awp_region ?_
          refine sq_plain rfl rfl rfl (w_move rfl (ev_tmp rfl)) ?_
          refine sq_plain rfl rfl rfl (w_addi rfl (ev_tmp rfl) ev_ci (by first | omega | ((try simp only [List.length_map, List.length_take, List.length_cons, List.length_nil, chunks_len, szR] at *); omega) | (have hc2 := hc; simp only [Bool.and_eq_true, Bool.or_eq_true, Bool.or_eq_false_iff, Bool.and_eq_false_iff, Bool.not_eq_true', Bool.not_eq_false', decide_eq_true_eq, decide_eq_false_iff_not, beq_iff_eq, bne_iff_ne, List.length_map, List.length_take] at hc2; omega))) ?_
          refine sq_plain rfl rfl rfl (w_assign rfl (ev_tmp rfl)) ?_
          refine sq_nil ?_
          refine round_end3 i cc d (i + 1) (x26.1) ((syncS d).1) ?_ ?_ (Le.trans (le_pick [3, 0, 0] rfl) (le_dropeq 1 (by rfl) ⟨rfl, rfl, rfl, rfl, rfl, trivial⟩))
          · exact ⟨⟨by omega, by omega⟩, syncS_good⟩
          · omega
        · intro h26
          refine awp_skip ?_
          refine awp_region ?_
          refine sq_plain rfl rfl rfl (w_move rfl (ev_tmp rfl)) ?_
          refine sq_plain rfl rfl rfl (w_addi rfl (ev_tmp rfl) ev_ci (by first | omega | ((try simp only [List.length_map, List.length_take, List.length_cons, List.length_nil, chunks_len, szR] at *); omega) | (have hc2 := hc; simp only [Bool.and_eq_true, Bool.or_eq_true, Bool.or_eq_false_iff, Bool.and_eq_false_iff, Bool.not_eq_true', Bool.not_eq_false', decide_eq_true_eq, decide_eq_false_iff_not, beq_iff_eq, bne_iff_ne, List.length_map, List.length_take] at hc2; omega))) ?_
          refine sq_plain rfl rfl rfl (w_assign rfl (ev_tmp rfl)) ?_
          refine sq_nil ?_
          refine round_end3 i cc d (i + 1) (x26.1) (d) ?_ ?_ (Le.trans (le_pick [3, 0, 0] rfl) (le_dropeq 1 (by rfl) ⟨rfl, rfl, rfl, rfl, rfl, trivial⟩))
          · exact ⟨⟨by omega, by omega⟩, hinv.2⟩
          · omega
    · refine eff_s rfl rfl rfl (opE_alloc rfl Try.zeroValue43 rfl) (fun a _ => (by first | exact invx_mk rfl | exact invx_mk (List.append_assoc _ _ _) | exact invx_all)) ?_
      intro b6 _
      refine bt_e1 ?_
      refine eff_s rfl rfl rfl (opE_call [1] rfl Try.call292 rfl (l6Text_own _ _ hcode _ (by omega)) (evl_cons (ev_tmp rfl) evl_nil) rfl) (fun a _ => (by first | exact invx_mk rfl | exact invx_mk (List.append_assoc _ _ _) | exact invx_all)) ?_
      intro x19 ok19
      refine bt_plain rfl rfl rfl (fun ext => w_call rfl Try.call291 rfl (writeDiskS_spec d x19.2 (by omega) (by omega)) (evl_cons (ev_tmp rfl) (evl_cons (ev_tmp rfl) evl_nil))) ?_
      refine bt_plain rfl rfl rfl (fun ext => w_move rfl (ev_tmp rfl)) ?_
      refine bt_plain rfl rfl rfl (fun ext => w_extract rfl (ev_tmp rfl) rfl) ?_
      refine bt_plain rfl rfl rfl (fun ext => w_extract rfl (ev_tmp rfl) rfl) ?_
      refine bt_e1 ?_
      refine eff_s0 rfl rfl rfl (opE_storeB0 2 rfl rfl (ev_tmp rfl) (ev_tmp rfl) (as_agg _) rfl Try.sizeOf43 rfl) (fun a _ => (by first | exact invx_mk rfl | exact invx_mk (List.append_assoc _ _ _) | exact invx_all)) ?_
      intro _ _
      refine bt_nil ?_
      refine sq_plain rfl rfl rfl (w_assign rfl (ev_tmp rfl)) ?_
      refine sq_nil ?_
      refine awp_seq ?_
      refine awp_own (by first | (simp only [id, pick, List.eraseIdx_cons_zero, List.eraseIdx_cons_succ, List.set_cons_zero, List.set_cons_succ, List.cons_append, List.nil_append, List.getElem?_cons_zero, List.getElem?_cons_succ, List.append_nil, List.take_succ_cons, List.take_zero, List.drop_succ_cons, List.drop_zero]; exact rfl) | exact rfl) ?_
      refine awp_region ?_
      refine sq_plain rfl rfl rfl (w_move rfl (ev_tmp rfl)) ?_
      refine sq_nil ?_
      refine awp_cond (ev_tmp rfl) ?_ ?_
      · intro h23
        refine awp_region ?_
        refine sq_plain rfl rfl rfl (w_loadA 2 rfl (ev_tmp rfl) rfl Try.isAgg43 Try.sizeOf43 rfl) ?_
        refine sq_storeB0 0 rfl rfl rfl (ev_tmp rfl) (ev_tmp rfl) (as_agg _) rfl Try.sizeOf43 rfl ?_
        refine sq_nil ?_
        refine awp_seq ?_
        refine awp_region ?_
        refine sq_plain rfl rfl rfl (w_move rfl (ev_tmp rfl)) ?_
        refine sq_callG [3] rfl rfl rfl rfl Try.call170 rfl (curOne_own _ _ hcode _ _ (by omega) (by omega)) (evl_cons (ev_tmp rfl) (evl_cons ev_ci evl_nil)) rfl ?_
        intro x26 ok26
        refine sq_nil ?_
        refine awp_cond (ev_tmp rfl) ?_ ?_
        · intro h26
          refine awp_region ?_
          refine sq_plain rfl rfl rfl (w_loadA 1 rfl (ev_tmp rfl) rfl Try.isAgg43 Try.sizeOf43 rfl) ?_
          refine sq_plain rfl rfl rfl (w_call rfl Try.call293 rfl ((by first | exact syncDiskS_spec (writeD d x19.2).1 (by have := goodD_size (writeD_good d x19.2); omega) | exact syncDiskS_spec d (by omega))) (evl_cons (ev_tmp rfl) evl_nil)) ?_
          refine sq_plain rfl rfl rfl (w_move rfl (ev_tmp rfl)) ?_
          refine sq_plain rfl rfl rfl (w_extract rfl (ev_tmp rfl) rfl) ?_
          refine sq_plain rfl rfl rfl (w_extract rfl (ev_tmp rfl) rfl) ?_
          refine sq_storeB0 1 rfl rfl rfl (ev_tmp rfl) (ev_tmp rfl) (as_agg _) rfl Try.sizeOf43 rfl ?_
          refine sq_nil ?_
          refine awp_region ?_
          refine sq_plain rfl rfl rfl (w_move rfl (ev_tmp rfl)) ?_
          refine sq_plain rfl rfl rfl (w_addi rfl (ev_tmp rfl) ev_ci (by first | omega | ((try simp only [List.length_map, List.length_take, List.length_cons, List.length_nil, chunks_len, szR] at *); omega) | (have hc2 := hc; simp only [Bool.and_eq_true, Bool.or_eq_true, Bool.or_eq_false_iff, Bool.and_eq_false_iff, Bool.not_eq_true', Bool.not_eq_false', decide_eq_true_eq, decide_eq_false_iff_not, beq_iff_eq, bne_iff_ne, List.length_map, List.length_take] at hc2; omega))) ?_
          refine sq_plain rfl rfl rfl (w_assign rfl (ev_tmp rfl)) ?_
          refine sq_nil ?_
          refine round_end3 i cc d (i + 1) (x26.1) ((syncS (writeD d x19.2).1).1) ?_ ?_ (Le.trans (le_pick [3, 0, 0] rfl) (le_dropeq 1 (by rfl) ⟨rfl, rfl, rfl, rfl, rfl, trivial⟩))
          · exact ⟨⟨by omega, by omega⟩, syncS_good⟩
          · omega
        · intro h26
          refine awp_skip ?_
          refine awp_region ?_
          refine sq_plain rfl rfl rfl (w_move rfl (ev_tmp rfl)) ?_
          refine sq_plain rfl rfl rfl (w_addi rfl (ev_tmp rfl) ev_ci (by first | omega | ((try simp only [List.length_map, List.length_take, List.length_cons, List.length_nil, chunks_len, szR] at *); omega) | (have hc2 := hc; simp only [Bool.and_eq_true, Bool.or_eq_true, Bool.or_eq_false_iff, Bool.and_eq_false_iff, Bool.not_eq_true', Bool.not_eq_false', decide_eq_true_eq, decide_eq_false_iff_not, beq_iff_eq, bne_iff_ne, List.length_map, List.length_take] at hc2; omega))) ?_
          refine sq_plain rfl rfl rfl (w_assign rfl (ev_tmp rfl)) ?_
          refine sq_nil ?_
          refine round_end3 i cc d (i + 1) (x26.1) ((writeD d x19.2).1) ?_ ?_ (Le.trans (le_pick [3, 0, 0] rfl) (le_dropeq 1 (by rfl) ⟨rfl, rfl, rfl, rfl, rfl, trivial⟩))
          · exact ⟨⟨by omega, by omega⟩, writeD_good _ _⟩
          · omega
      · intro h23
        refine awp_skip ?_
        refine awp_seq ?_
        refine awp_region ?_
        refine sq_plain rfl rfl rfl (w_move rfl (ev_tmp rfl)) ?_
        refine sq_callG [3] rfl rfl rfl rfl Try.call170 rfl (curOne_own _ _ hcode _ _ (by omega) (by omega)) (evl_cons (ev_tmp rfl) (evl_cons ev_ci evl_nil)) rfl ?_
        intro x26 ok26
        refine sq_nil ?_
        refine awp_cond (ev_tmp rfl) ?_ ?_
        · intro h26
          refine awp_region ?_
          refine sq_plain rfl rfl rfl (w_loadA 1 rfl (ev_tmp rfl) rfl Try.isAgg43 Try.sizeOf43 rfl) ?_
          refine sq_plain rfl rfl rfl (w_call rfl Try.call293 rfl ((by first | exact syncDiskS_spec (writeD d x19.2).1 (by have := goodD_size (writeD_good d x19.2); omega) | exact syncDiskS_spec d (by omega))) (evl_cons (ev_tmp rfl) evl_nil)) ?_
          refine sq_plain rfl rfl rfl (w_move rfl (ev_tmp rfl)) ?_
          refine sq_plain rfl rfl rfl (w_extract rfl (ev_tmp rfl) rfl) ?_
          refine sq_plain rfl rfl rfl (w_extract rfl (ev_tmp rfl) rfl) ?_
          refine sq_storeB0 1 rfl rfl rfl (ev_tmp rfl) (ev_tmp rfl) (as_agg _) rfl Try.sizeOf43 rfl ?_
          refine sq_nil ?_
          refine awp_region ?_
          refine sq_plain rfl rfl rfl (w_move rfl (ev_tmp rfl)) ?_
          refine sq_plain rfl rfl rfl (w_addi rfl (ev_tmp rfl) ev_ci (by first | omega | ((try simp only [List.length_map, List.length_take, List.length_cons, List.length_nil, chunks_len, szR] at *); omega) | (have hc2 := hc; simp only [Bool.and_eq_true, Bool.or_eq_true, Bool.or_eq_false_iff, Bool.and_eq_false_iff, Bool.not_eq_true', Bool.not_eq_false', decide_eq_true_eq, decide_eq_false_iff_not, beq_iff_eq, bne_iff_ne, List.length_map, List.length_take] at hc2; omega))) ?_
          refine sq_plain rfl rfl rfl (w_assign rfl (ev_tmp rfl)) ?_
          refine sq_nil ?_
          refine round_end3 i cc d (i + 1) (x26.1) ((syncS d).1) ?_ ?_ (Le.trans (le_pick [3, 0, 0] rfl) (le_dropeq 1 (by rfl) ⟨rfl, rfl, rfl, rfl, rfl, trivial⟩))
          · exact ⟨⟨by omega, by omega⟩, syncS_good⟩
          · omega
        · intro h26
          refine awp_skip ?_
          refine awp_region ?_
          refine sq_plain rfl rfl rfl (w_move rfl (ev_tmp rfl)) ?_
          refine sq_plain rfl rfl rfl (w_addi rfl (ev_tmp rfl) ev_ci (by first | omega | ((try simp only [List.length_map, List.length_take, List.length_cons, List.length_nil, chunks_len, szR] at *); omega) | (have hc2 := hc; simp only [Bool.and_eq_true, Bool.or_eq_true, Bool.or_eq_false_iff, Bool.and_eq_false_iff, Bool.not_eq_true', Bool.not_eq_false', decide_eq_true_eq, decide_eq_false_iff_not, beq_iff_eq, bne_iff_ne, List.length_map, List.length_take] at hc2; omega))) ?_
          refine sq_plain rfl rfl rfl (w_assign rfl (ev_tmp rfl)) ?_
          refine sq_nil ?_
          refine round_end3 i cc d (i + 1) (x26.1) (d) ?_ ?_ (Le.trans (le_pick [3, 0, 0] rfl) (le_dropeq 1 (by rfl) ⟨rfl, rfl, rfl, rfl, rfl, trivial⟩))
          · exact ⟨⟨by omega, by omega⟩, hinv.2⟩
          · omega
  · intro h13
    have k13 := of_decide_eq_false h13; try simp only [List.length_map] at k13
    refine awp_exit ?_
    refine awp_seq ?_
    refine awp_region ?_
    refine sq_plain rfl rfl rfl (w_loadA 1 rfl (ev_tmp rfl) rfl Try.isAgg43 Try.sizeOf43 rfl) ?_
    refine sq_storeB0 2 rfl rfl rfl (ev_tmp rfl) (ev_tmp rfl) (as_agg _) rfl Try.sizeOf43 rfl ?_
    refine sq_nil ?_
    refine awp_ret ?_
    (refine retG [0] ((cc, d)) ?_ rfl (by first | (dsimp only; rfl) | rfl) (resR rfl (rv_cell (ys := _) 2 rfl rfl Try.isAgg43 Try.sizeOf43 rfl)); exact ⟨show cc.p ≤ _ by omega, hinv.2⟩)
end Go.Proofs.Yteliahajeokciaa

set_option linter.unusedVariables false
set_option linter.unusedSimpArgs false
set_option maxRecDepth 100000
set_option maxHeartbeats 1000000
namespace Go.M
open Go.AV
theorem ofInt_byte {x : Int} (h : 0 ≤ x ∧ x ≤ 255) : IntKind.u8.wrap x = ((UInt8.ofNat x.toNat).toNat : Int) := u8w (by omega)
end Go.M
namespace Go.Proofs.Yteliahajeokciaa
open Go Go.AV Go.M
attribute [local irreducible] OpW OpA OpS AWP FSpec ESpec GSpec OpE RetOk RetOkG RvDen Le Ev GuardIs SrcIs Int.tmod Int.tdiv IntKind.wrap bandI
theorem l6Odd_own (b : Nat) (code : List Int) (hcode : ByteL code) (c : TCur) (hp : c.p ≤ 3000000) : GSpec Try.prog 224 [AV.ptr b 0] [.box b 123 (curC code c)] (fun x : TCur × TDisk => x.1.p ≤ c.p + 70 ∧ x.2.size ≤ 60000) (fun x => [.box b 123 (curC code x.1)]) (fun x => AV.agg x.2.cs) := by
  refine gspec_of_awp Try.func224 rfl Try.ntmps224 rfl ?_
  refine awp_seq ?_
  refine awp_region ?_
  refine sq_alloc rfl rfl rfl rfl Try.zeroValue43 rfl ?_
  intro b2
  refine sq_nil ?_
  refine awp_seq ?_
  refine awp_region ?_
  refine sq_plain rfl rfl rfl (w_move rfl (ev_tmp rfl)) ?_
  refine sq_callG [1] rfl rfl rfl rfl Try.call270 rfl (l6Make_own _ _ hcode _ (by omega)) (evl_cons (ev_tmp rfl) evl_nil) rfl ?_
  intro x5 ok5
  obtain ⟨⟨c5, d⟩, hx5⟩ : ∃ z, x5 = z := ⟨_, rfl⟩
  subst hx5
  obtain ⟨hcp5, hg5⟩ := ok5
  dsimp only at hcp5 hg5 ⊢
  have hd5 := goodD_len hg5
  have hd6 := goodD_size hg5
  refine sq_alloc rfl rfl rfl rfl Try.zeroValue43 rfl ?_
  intro b3
  refine sq_storeB0 0 rfl rfl rfl (ev_tmp rfl) (ev_tmp rfl) (as_agg _) rfl Try.sizeOf43 rfl ?_
  refine sq_nil ?_
  refine awp_seq ?_
  refine awp_seq ?_
  refine awp_region ?_
  refine sq_plain rfl rfl rfl (w_move rfl (ev_tmp rfl)) ?_
  refine sq_callG [1] rfl rfl rfl rfl Try.call131 rfl (curPick_own _ _ hcode _ _ (by omega) (by omega)) (evl_cons (ev_tmp rfl) (evl_cons ev_ci evl_nil)) rfl ?_
  intro x7 ok7
  refine sq_nil ?_
  refine awp_block ?_
  refine awp_seq ?_
  refine awp_region ?_
  refine sq_plain rfl rfl rfl (w_eql rfl (ev_tmp rfl) ev_ci) ?_
  refine sq_plain rfl rfl rfl (w_assign rfl (ev_tmp rfl)) ?_
  refine sq_nil ?_
  refine awp_cond (ev_tmp rfl) ?_ ?_
  · intro h8
    have k8 := eq_of_beqt h8; try simp only [List.length_map] at k8
    refine awp_region ?_
    refine sq_plain rfl rfl rfl (w_move rfl (ev_tmp rfl)) ?_
    refine sq_plain rfl rfl rfl (w_fldBn 1 rfl Try.underlying43 rfl Try.sizeOf9 (ev_tmp rfl) rfl) ?_
    refine sq_plain rfl rfl rfl (w_loadB1 1 rfl (ev_tmp rfl) rfl Try.isAgg9 rfl) ?_
    refine sq_callG [0] rfl rfl rfl rfl Try.call222 rfl (curSpoilt_own _ _ hcode _ d.Loose _ (by omega) (by decide) (by omega)) (evl_cons (ev_tmp rfl) (evl_cons (ev_tmp rfl) (evl_cons (ev_cs' (l := [0, 1, 128, 255]) rfl) evl_nil))) rfl ?_
    intro x13 ok13
    refine sq_plain rfl rfl rfl (w_fldBn 1 rfl Try.underlying43 rfl Try.sizeOf9 (ev_tmp rfl) rfl) ?_
    refine sq_storeB1 1 rfl rfl rfl (ev_tmp rfl) (ev_tmp rfl) (as_str _) rfl Try.sizeOf9 rfl ?_
    refine sq_nil ?_
    refine awp_seq ?_
    refine awp_region ?_
    refine sq_plain rfl rfl rfl (w_loadA 1 rfl (ev_tmp rfl) rfl Try.isAgg43 Try.sizeOf43 rfl) ?_
    refine sq_storeB0 2 rfl rfl rfl (ev_tmp rfl) (ev_tmp rfl) (as_agg _) rfl Try.sizeOf43 rfl ?_
    refine sq_nil ?_
    refine awp_ret ?_
    (refine retG [0] ((x13.1, ⟨d.Kept, x13.2⟩)) ?_ rfl (by first | (dsimp only; rfl) | rfl) (resR rfl (rv_cell (ys := _) 2 rfl rfl Try.isAgg43 Try.sizeOf43 rfl)); (dsimp only; first | exact ⟨by omega, by omega⟩ | exact ⟨by omega, by simp only [TDisk.size, List.length_replicate]; omega⟩))
  · intro h8
    have k8 := ne_of_beqf h8; try simp only [List.length_map] at k8
    refine awp_seq ?_
    refine awp_region ?_
    refine sq_plain rfl rfl rfl (w_eql rfl (ev_tmp rfl) ev_ci) ?_
    refine sq_plain rfl rfl rfl (w_assign rfl (ev_tmp rfl)) ?_
    refine sq_nil ?_
    refine awp_cond (ev_tmp rfl) ?_ ?_
    · intro h15
      have k15 := eq_of_beqt h15; try simp only [List.length_map] at k15
      refine awp_region ?_
      refine sq_plain rfl rfl rfl (w_move rfl (ev_tmp rfl)) ?_
      refine sq_plain rfl rfl rfl (w_fldBn 0 rfl Try.underlying43 rfl Try.sizeOf9 (ev_tmp rfl) rfl) ?_
      refine sq_plain rfl rfl rfl (w_loadB1 1 rfl (ev_tmp rfl) rfl Try.isAgg9 rfl) ?_
      refine sq_callG [0] rfl rfl rfl rfl Try.call222 rfl (curSpoilt_own _ _ hcode _ d.Kept _ (by omega) (by decide) (by omega)) (evl_cons (ev_tmp rfl) (evl_cons (ev_tmp rfl) (evl_cons (ev_cs' (l := [0, 1, 128, 255]) rfl) evl_nil))) rfl ?_
      intro x20 ok20
      refine sq_plain rfl rfl rfl (w_fldBn 0 rfl Try.underlying43 rfl Try.sizeOf9 (ev_tmp rfl) rfl) ?_
      refine sq_storeB1 1 rfl rfl rfl (ev_tmp rfl) (ev_tmp rfl) (as_str _) rfl Try.sizeOf9 rfl ?_
      refine sq_nil ?_
      refine awp_seq ?_
      refine awp_region ?_
      refine sq_plain rfl rfl rfl (w_loadA 1 rfl (ev_tmp rfl) rfl Try.isAgg43 Try.sizeOf43 rfl) ?_
      refine sq_storeB0 2 rfl rfl rfl (ev_tmp rfl) (ev_tmp rfl) (as_agg _) rfl Try.sizeOf43 rfl ?_
      refine sq_nil ?_
      refine awp_ret ?_
      (refine retG [0] ((x20.1, ⟨x20.2, d.Loose⟩)) ?_ rfl (by first | (dsimp only; rfl) | rfl) (resR rfl (rv_cell (ys := _) 2 rfl rfl Try.isAgg43 Try.sizeOf43 rfl)); (dsimp only; first | exact ⟨by omega, by omega⟩ | exact ⟨by omega, by simp only [TDisk.size, List.length_replicate]; omega⟩))
    · intro h15
      have k15 := ne_of_beqf h15; try simp only [List.length_map] at k15
      refine awp_seq ?_
      refine awp_region ?_
      refine sq_plain rfl rfl rfl (w_eql rfl (ev_tmp rfl) ev_ci) ?_
      refine sq_plain rfl rfl rfl (w_assign rfl (ev_tmp rfl)) ?_
      refine sq_nil ?_
      refine awp_cond (ev_tmp rfl) ?_ ?_
      · intro h22
        have k22 := eq_of_beqt h22; try simp only [List.length_map] at k22
        refine awp_own (by first | (simp only [id, pick, List.eraseIdx_cons_zero, List.eraseIdx_cons_succ, List.set_cons_zero, List.set_cons_succ, List.cons_append, List.nil_append, List.getElem?_cons_zero, List.getElem?_cons_succ, List.append_nil, List.take_succ_cons, List.take_zero, List.drop_succ_cons, List.drop_zero]; exact rfl) | exact rfl) ?_
        refine awp_region_tree0 [] 14 (.pure 1 (.pure 2 (.pure 7 (.e2 0 (.e1 3 (.pure 4 (.pure 5 (.e1 6 (.e1 8 (.e1 9 (.pure 10 (.pure 11 (.pure 12 (.e1 13 .nil)))))))))) 3 (.pure 4 (.pure 5 (.e2 0 (.e1 6 (.e1 8 (.e1 9 (.pure 10 (.pure 11 (.pure 12 (.e1 13 .nil))))))) 6 (.e2 0 (.e1 8 (.e1 9 (.pure 10 (.pure 11 (.pure 12 (.e1 13 .nil)))))) 8 (.e1 0 (.e1 9 (.pure 10 (.pure 11 (.pure 12 (.e1 13 .nil)))))))))))))) (by kernel_rfl) (by kernel_rfl) rfl invx_all ?_
        refine bt_plain rfl rfl rfl (fun ext => w_move rfl (ev_tmp rfl)) ?_
        refine bt_plain rfl rfl rfl (fun ext => w_fldBn 1 rfl Try.underlying43 rfl Try.sizeOf9 (ev_tmp rfl) rfl) ?_
        refine bt_plain rfl rfl rfl (fun ext => w_move rfl (ev_tmp rfl)) ?_
        refine bt_e2 ?_ ?_
        · refine eff_s rfl rfl rfl (opE_pure (w_loadA 1 rfl (ev_tmp rfl) rfl Try.isAgg43 Try.sizeOf43 rfl)) (fun a _ => (by first | exact invx_mk rfl | exact invx_mk (List.append_assoc _ _ _) | exact invx_all)) ?_
          intro _ _
          refine bt_e1 ?_
          refine eff_s rfl rfl rfl (opE_pure (w_loadB1 1 rfl (ev_tmp rfl) rfl Try.isAgg9 rfl)) (fun a _ => (by first | exact invx_mk rfl | exact invx_mk (List.append_assoc _ _ _) | exact invx_all)) ?_
          intro _ _
          refine bt_plain rfl rfl rfl (fun ext => w_slen rfl Try.underlying9 (ev_tmp rfl)) ?_
          refine bt_plain rfl rfl rfl (fun ext => w_addi rfl (ev_tmp rfl) ev_ci (by first | omega | ((try simp only [List.length_map, List.length_take, List.length_cons, List.length_nil, chunks_len, szR] at *); omega) | (have hc2 := hc; simp only [Bool.and_eq_true, Bool.or_eq_true, Bool.or_eq_false_iff, Bool.and_eq_false_iff, Bool.not_eq_true', Bool.not_eq_false', decide_eq_true_eq, decide_eq_false_iff_not, beq_iff_eq, bne_iff_ne, List.length_map, List.length_take] at hc2; omega))) ?_
          refine bt_e1 ?_
          refine eff_s rfl rfl rfl (opE_call [0] rfl Try.call131 rfl (curPick_own _ _ hcode _ _ (by omega) (by omega)) (evl_cons (ev_tmp rfl) (evl_cons (ev_tmp rfl) evl_nil)) rfl) (fun a _ => (by first | exact invx_mk rfl | exact invx_mk (List.append_assoc _ _ _) | exact invx_all)) ?_
          intro x31 ok31
          refine bt_e1 ?_
          refine eff_s rfl rfl rfl (opE_call [2] rfl Try.call170 rfl (curOne_own _ _ hcode _ _ (by omega) (by omega)) (evl_cons (ev_tmp rfl) (evl_cons ev_ci evl_nil)) rfl) (fun a _ => (by first | exact invx_mk rfl | exact invx_mk (List.append_assoc _ _ _) | exact invx_all)) ?_
          intro x33 ok33
          refine bt_e1 ?_
          refine eff_s rfl rfl rfl (opE_call [] rfl Try.call225 rfl (fallDisk_own d _ _ (by omega)) (evl_cons (ev_tmp rfl) (evl_cons (ev_tmp rfl) (evl_cons (ev_tmp rfl) evl_nil))) rfl) (fun a _ => (by first | exact invx_mk rfl | exact invx_mk (List.append_assoc _ _ _) | exact invx_all)) ?_
          intro x34 ok34
          refine bt_plain rfl rfl rfl (fun ext => w_move rfl (ev_tmp rfl)) ?_
          refine bt_plain rfl rfl rfl (fun ext => w_extract rfl (ev_tmp rfl) rfl) ?_
          refine bt_plain rfl rfl rfl (fun ext => w_extract rfl (ev_tmp rfl) rfl) ?_
          refine bt_e1 ?_
          refine eff_s0 rfl rfl rfl (opE_storeB0 0 rfl rfl (ev_tmp rfl) (ev_tmp rfl) (as_agg _) rfl Try.sizeOf43 rfl) (fun a _ => (by first | exact invx_mk rfl | exact invx_mk (List.append_assoc _ _ _) | exact invx_all)) ?_
          intro _ _
          refine bt_nil ?_
          refine sq_nil ?_
          refine awp_seq ?_
          refine awp_region ?_
          refine sq_plain rfl rfl rfl (w_loadA 0 rfl (ev_tmp rfl) rfl Try.isAgg43 Try.sizeOf43 rfl) ?_
          refine sq_storeB0 1 rfl rfl rfl (ev_tmp rfl) (ev_tmp rfl) (as_agg _) rfl Try.sizeOf43 rfl ?_
          refine sq_nil ?_
          refine awp_ret ?_
          (refine retG [2] ((_, x34.1)) ?_ rfl (by first | (dsimp only; rfl) | rfl) (resR rfl (rv_cell (ys := _) 1 rfl rfl Try.isAgg43 Try.sizeOf43 rfl)); (dsimp only; first | exact ⟨by omega, by omega⟩ | exact ⟨by omega, by simp only [TDisk.size, List.length_replicate]; omega⟩))
        · refine eff_s rfl rfl rfl (opE_pure (w_loadB1 1 rfl (ev_tmp rfl) rfl Try.isAgg9 rfl)) (fun a _ => (by first | exact invx_mk rfl | exact invx_mk (List.append_assoc _ _ _) | exact invx_all)) ?_
          intro _ _
          refine bt_plain rfl rfl rfl (fun ext => w_slen rfl Try.underlying9 (ev_tmp rfl)) ?_
          refine bt_plain rfl rfl rfl (fun ext => w_addi rfl (ev_tmp rfl) ev_ci (by first | omega | ((try simp only [List.length_map, List.length_take, List.length_cons, List.length_nil, chunks_len, szR] at *); omega) | (have hc2 := hc; simp only [Bool.and_eq_true, Bool.or_eq_true, Bool.or_eq_false_iff, Bool.and_eq_false_iff, Bool.not_eq_true', Bool.not_eq_false', decide_eq_true_eq, decide_eq_false_iff_not, beq_iff_eq, bne_iff_ne, List.length_map, List.length_take] at hc2; omega))) ?_
          refine bt_e2 ?_ ?_
          · refine eff_s rfl rfl rfl (opE_pure (w_loadA 1 rfl (ev_tmp rfl) rfl Try.isAgg43 Try.sizeOf43 rfl)) (fun a _ => (by first | exact invx_mk rfl | exact invx_mk (List.append_assoc _ _ _) | exact invx_all)) ?_
            intro _ _
            refine bt_e1 ?_
            refine eff_s rfl rfl rfl (opE_call [0] rfl Try.call131 rfl (curPick_own _ _ hcode _ _ (by omega) (by omega)) (evl_cons (ev_tmp rfl) (evl_cons (ev_tmp rfl) evl_nil)) rfl) (fun a _ => (by first | exact invx_mk rfl | exact invx_mk (List.append_assoc _ _ _) | exact invx_all)) ?_
            intro x31 ok31
            refine bt_e1 ?_
            refine eff_s rfl rfl rfl (opE_call [2] rfl Try.call170 rfl (curOne_own _ _ hcode _ _ (by omega) (by omega)) (evl_cons (ev_tmp rfl) (evl_cons ev_ci evl_nil)) rfl) (fun a _ => (by first | exact invx_mk rfl | exact invx_mk (List.append_assoc _ _ _) | exact invx_all)) ?_
            intro x33 ok33
            refine bt_e1 ?_
            refine eff_s rfl rfl rfl (opE_call [] rfl Try.call225 rfl (fallDisk_own d _ _ (by omega)) (evl_cons (ev_tmp rfl) (evl_cons (ev_tmp rfl) (evl_cons (ev_tmp rfl) evl_nil))) rfl) (fun a _ => (by first | exact invx_mk rfl | exact invx_mk (List.append_assoc _ _ _) | exact invx_all)) ?_
            intro x34 ok34
            refine bt_plain rfl rfl rfl (fun ext => w_move rfl (ev_tmp rfl)) ?_
            refine bt_plain rfl rfl rfl (fun ext => w_extract rfl (ev_tmp rfl) rfl) ?_
            refine bt_plain rfl rfl rfl (fun ext => w_extract rfl (ev_tmp rfl) rfl) ?_
            refine bt_e1 ?_
            refine eff_s0 rfl rfl rfl (opE_storeB0 0 rfl rfl (ev_tmp rfl) (ev_tmp rfl) (as_agg _) rfl Try.sizeOf43 rfl) (fun a _ => (by first | exact invx_mk rfl | exact invx_mk (List.append_assoc _ _ _) | exact invx_all)) ?_
            intro _ _
            refine bt_nil ?_
            refine sq_nil ?_
            refine awp_seq ?_
            refine awp_region ?_
            refine sq_plain rfl rfl rfl (w_loadA 0 rfl (ev_tmp rfl) rfl Try.isAgg43 Try.sizeOf43 rfl) ?_
            refine sq_storeB0 1 rfl rfl rfl (ev_tmp rfl) (ev_tmp rfl) (as_agg _) rfl Try.sizeOf43 rfl ?_
            refine sq_nil ?_
            refine awp_ret ?_
            (refine retG [2] ((_, x34.1)) ?_ rfl (by first | (dsimp only; rfl) | rfl) (resR rfl (rv_cell (ys := _) 1 rfl rfl Try.isAgg43 Try.sizeOf43 rfl)); (dsimp only; first | exact ⟨by omega, by omega⟩ | exact ⟨by omega, by simp only [TDisk.size, List.length_replicate]; omega⟩))
          · refine eff_s rfl rfl rfl (opE_call [0] rfl Try.call131 rfl (curPick_own _ _ hcode _ _ (by omega) (by omega)) (evl_cons (ev_tmp rfl) (evl_cons (ev_tmp rfl) evl_nil)) rfl) (fun a _ => (by first | exact invx_mk rfl | exact invx_mk (List.append_assoc _ _ _) | exact invx_all)) ?_
            intro x31 ok31
            refine bt_e2 ?_ ?_
            · refine eff_s rfl rfl rfl (opE_pure (w_loadA 0 rfl (ev_tmp rfl) rfl Try.isAgg43 Try.sizeOf43 rfl)) (fun a _ => (by first | exact invx_mk rfl | exact invx_mk (List.append_assoc _ _ _) | exact invx_all)) ?_
              intro _ _
              refine bt_e1 ?_
              refine eff_s rfl rfl rfl (opE_call [2] rfl Try.call170 rfl (curOne_own _ _ hcode _ _ (by omega) (by omega)) (evl_cons (ev_tmp rfl) (evl_cons ev_ci evl_nil)) rfl) (fun a _ => (by first | exact invx_mk rfl | exact invx_mk (List.append_assoc _ _ _) | exact invx_all)) ?_
              intro x33 ok33
              refine bt_e1 ?_
              refine eff_s rfl rfl rfl (opE_call [] rfl Try.call225 rfl (fallDisk_own d _ _ (by omega)) (evl_cons (ev_tmp rfl) (evl_cons (ev_tmp rfl) (evl_cons (ev_tmp rfl) evl_nil))) rfl) (fun a _ => (by first | exact invx_mk rfl | exact invx_mk (List.append_assoc _ _ _) | exact invx_all)) ?_
              intro x34 ok34
              refine bt_plain rfl rfl rfl (fun ext => w_move rfl (ev_tmp rfl)) ?_
              refine bt_plain rfl rfl rfl (fun ext => w_extract rfl (ev_tmp rfl) rfl) ?_
              refine bt_plain rfl rfl rfl (fun ext => w_extract rfl (ev_tmp rfl) rfl) ?_
              refine bt_e1 ?_
              refine eff_s0 rfl rfl rfl (opE_storeB0 0 rfl rfl (ev_tmp rfl) (ev_tmp rfl) (as_agg _) rfl Try.sizeOf43 rfl) (fun a _ => (by first | exact invx_mk rfl | exact invx_mk (List.append_assoc _ _ _) | exact invx_all)) ?_
              intro _ _
              refine bt_nil ?_
              refine sq_nil ?_
              refine awp_seq ?_
              refine awp_region ?_
              refine sq_plain rfl rfl rfl (w_loadA 0 rfl (ev_tmp rfl) rfl Try.isAgg43 Try.sizeOf43 rfl) ?_
              refine sq_storeB0 1 rfl rfl rfl (ev_tmp rfl) (ev_tmp rfl) (as_agg _) rfl Try.sizeOf43 rfl ?_
              refine sq_nil ?_
              refine awp_ret ?_
              (refine retG [2] ((_, x34.1)) ?_ rfl (by first | (dsimp only; rfl) | rfl) (resR rfl (rv_cell (ys := _) 1 rfl rfl Try.isAgg43 Try.sizeOf43 rfl)); (dsimp only; first | exact ⟨by omega, by omega⟩ | exact ⟨by omega, by simp only [TDisk.size, List.length_replicate]; omega⟩))
            · refine eff_s rfl rfl rfl (opE_call [2] rfl Try.call170 rfl (curOne_own _ _ hcode _ _ (by omega) (by omega)) (evl_cons (ev_tmp rfl) (evl_cons ev_ci evl_nil)) rfl) (fun a _ => (by first | exact invx_mk rfl | exact invx_mk (List.append_assoc _ _ _) | exact invx_all)) ?_
              intro x33 ok33
              refine bt_e1 ?_
              refine eff_s rfl rfl rfl (opE_pure (w_loadA 0 rfl (ev_tmp rfl) rfl Try.isAgg43 Try.sizeOf43 rfl)) (fun a _ => (by first | exact invx_mk rfl | exact invx_mk (List.append_assoc _ _ _) | exact invx_all)) ?_
              intro _ _
              refine bt_e1 ?_
              refine eff_s rfl rfl rfl (opE_call [] rfl Try.call225 rfl (fallDisk_own d _ _ (by omega)) (evl_cons (ev_tmp rfl) (evl_cons (ev_tmp rfl) (evl_cons (ev_tmp rfl) evl_nil))) rfl) (fun a _ => (by first | exact invx_mk rfl | exact invx_mk (List.append_assoc _ _ _) | exact invx_all)) ?_
              intro x34 ok34
              refine bt_plain rfl rfl rfl (fun ext => w_move rfl (ev_tmp rfl)) ?_
              refine bt_plain rfl rfl rfl (fun ext => w_extract rfl (ev_tmp rfl) rfl) ?_
              refine bt_plain rfl rfl rfl (fun ext => w_extract rfl (ev_tmp rfl) rfl) ?_
              refine bt_e1 ?_
              refine eff_s0 rfl rfl rfl (opE_storeB0 0 rfl rfl (ev_tmp rfl) (ev_tmp rfl) (as_agg _) rfl Try.sizeOf43 rfl) (fun a _ => (by first | exact invx_mk rfl | exact invx_mk (List.append_assoc _ _ _) | exact invx_all)) ?_
              intro _ _
              refine bt_nil ?_
              refine sq_nil ?_
              refine awp_seq ?_
              refine awp_region ?_
              refine sq_plain rfl rfl rfl (w_loadA 0 rfl (ev_tmp rfl) rfl Try.isAgg43 Try.sizeOf43 rfl) ?_
              refine sq_storeB0 1 rfl rfl rfl (ev_tmp rfl) (ev_tmp rfl) (as_agg _) rfl Try.sizeOf43 rfl ?_
              refine sq_nil ?_
              refine awp_ret ?_
              (refine retG [2] ((_, x34.1)) ?_ rfl (by first | (dsimp only; rfl) | rfl) (resR rfl (rv_cell (ys := _) 1 rfl rfl Try.isAgg43 Try.sizeOf43 rfl)); (dsimp only; first | exact ⟨by omega, by omega⟩ | exact ⟨by omega, by simp only [TDisk.size, List.length_replicate]; omega⟩))
      · intro h22
        have k22 := ne_of_beqf h22; try simp only [List.length_map] at k22
        refine awp_seq ?_
        refine awp_region ?_
        refine sq_plain rfl rfl rfl (w_eql rfl (ev_tmp rfl) ev_ci) ?_
        refine sq_plain rfl rfl rfl (w_assign rfl (ev_tmp rfl)) ?_
        refine sq_nil ?_
        refine awp_cond (ev_tmp rfl) ?_ ?_
        · intro h37
          have k37 := eq_of_beqt h37; try simp only [List.length_map] at k37
          refine awp_seq ?_
          refine awp_region ?_
          refine sq_plain rfl rfl rfl (w_move rfl (ev_tmp rfl)) ?_
          refine sq_callG [0] rfl rfl rfl rfl Try.call170 rfl (curOne_own _ _ hcode _ _ (by omega) (by omega)) (evl_cons (ev_tmp rfl) (evl_cons ev_ci evl_nil)) rfl ?_
          intro x40 ok40
          refine sq_nil ?_
          refine awp_cond (ev_tmp rfl) ?_ ?_
          · intro h40
            refine awp_own (by first | (simp only [id, pick, List.eraseIdx_cons_zero, List.eraseIdx_cons_succ, List.set_cons_zero, List.set_cons_succ, List.cons_append, List.nil_append, List.getElem?_cons_zero, List.getElem?_cons_succ, List.append_nil, List.take_succ_cons, List.take_zero, List.drop_succ_cons, List.drop_zero]; exact rfl) | exact rfl) ?_
            refine AWP.le (le_pick [1, 0] rfl) ?_
            refine awp_region_mix _ [(0, false), (1, false), (2, false), (3, false), (4, false), (5, true), (6, false), (7, true)] (by kernel_rfl) (by kernel_rfl) rfl (invx_take 1) ?_
            refine bc_plain rfl rfl rfl (fun ext => w_fldBn 0 rfl Try.underlying43 rfl Try.sizeOf9 (ev_tmp rfl) rfl) ?_
            refine bc_plain rfl rfl rfl (fun ext => w_loadB1 0 rfl (ev_tmp rfl) rfl Try.isAgg9 rfl) ?_
            refine bc_plain rfl rfl rfl (fun ext => w_slen rfl Try.underlying9 (ev_tmp rfl)) ?_
            refine bc_plain rfl rfl rfl (fun ext => w_subi rfl ev_ci (ev_tmp rfl) (by first | omega | ((try simp only [List.length_map, List.length_take, List.length_cons, List.length_nil, chunks_len, szR] at *); omega) | (have hc2 := hc; simp only [Bool.and_eq_true, Bool.or_eq_true, Bool.or_eq_false_iff, Bool.and_eq_false_iff, Bool.not_eq_true', Bool.not_eq_false', decide_eq_true_eq, decide_eq_false_iff_not, beq_iff_eq, bne_iff_ne, List.length_map, List.length_take] at hc2; omega))) ?_
            refine bc_plain rfl rfl rfl (fun ext => w_move rfl (ev_tmp rfl)) ?_
            refine bc_eff rfl rfl rfl (opE_call [1] rfl Try.call131 rfl (curPick_own _ _ hcode _ _ (by omega) (by omega)) (evl_cons (ev_tmp rfl) (evl_cons ev_ci evl_nil)) rfl) (fun a _ => (by first | exact invx_mk rfl | exact invx_mk (List.append_assoc _ _ _) | exact invx_all)) ?_
            intro x46 ok46
            obtain ⟨k, hk⟩ : ∃ k : Nat, (50000 : Int) - (d.Kept.length : Int) + x46.2 = (k : Int) := ⟨((50000 : Int) - (d.Kept.length : Int) + x46.2).toNat, by omega⟩
            have hk2 : k ≤ 50002 := by omega
            refine bc_plain rfl rfl rfl (fun ext => w_addi rfl (ev_tmp rfl) (ev_tmp rfl) (by first | omega | ((try simp only [List.length_map, List.length_take, List.length_cons, List.length_nil, chunks_len, szR] at *); omega) | (have hc2 := hc; simp only [Bool.and_eq_true, Bool.or_eq_true, Bool.or_eq_false_iff, Bool.and_eq_false_iff, Bool.not_eq_true', Bool.not_eq_false', decide_eq_true_eq, decide_eq_false_iff_not, beq_iff_eq, bne_iff_ne, List.length_map, List.length_take] at hc2; omega))) ?_
            rw [hk]
            refine bc_eff rfl rfl rfl (opE_make (by' := 1) rfl Try.underlying22 Try.type5 rfl rfl rfl rfl rfl rfl (ev_tmp rfl) (ev_tmp rfl) (by first | omega | ((try simp only [List.length_map, List.length_take, List.length_cons, List.length_nil, chunks_len, szR] at *); omega) | (have hc2 := hc; simp only [Bool.and_eq_true, Bool.or_eq_true, Bool.or_eq_false_iff, Bool.and_eq_false_iff, Bool.not_eq_true', Bool.not_eq_false', decide_eq_true_eq, decide_eq_false_iff_not, beq_iff_eq, bne_iff_ne, List.length_map, List.length_take] at hc2; omega)) (by first | omega | ((try simp only [List.length_map, List.length_take, List.length_cons, List.length_nil, chunks_len, szR] at *); omega) | (have hc2 := hc; simp only [Bool.and_eq_true, Bool.or_eq_true, Bool.or_eq_false_iff, Bool.and_eq_false_iff, Bool.not_eq_true', Bool.not_eq_false', decide_eq_true_eq, decide_eq_false_iff_not, beq_iff_eq, bne_iff_ne, List.length_map, List.length_take] at hc2; omega))) (fun a _ => (by first | exact invx_mk rfl | exact invx_mk (List.append_assoc _ _ _) | exact invx_all)) ?_
            intro v48 _
            refine bc_nil ?_
            refine sq_plain rfl rfl rfl (w_convBo (bs := (List.replicate k 0)) 3 ((by rw [List.map_replicate]; rfl)) rfl Try.underlying22 Try.underlying5 Try.underlying9 (ev_tmp rfl)) ?_
            refine sq_plain rfl rfl rfl (w_fldBn 1 rfl Try.underlying43 rfl Try.sizeOf9 (ev_tmp rfl) rfl) ?_
            refine sq_storeB1 0 rfl rfl rfl (ev_tmp rfl) (ev_tmp rfl) (as_str _) rfl Try.sizeOf9 rfl ?_
            refine sq_nil ?_
            refine awp_seq ?_
            refine awp_region ?_
            refine sq_plain rfl rfl rfl (w_loadA 0 rfl (ev_tmp rfl) rfl Try.isAgg43 Try.sizeOf43 rfl) ?_
            refine sq_storeB0 1 rfl rfl rfl (ev_tmp rfl) (ev_tmp rfl) (as_agg _) rfl Try.sizeOf43 rfl ?_
            refine sq_nil ?_
            refine awp_ret ?_
            (refine retG [2] ((x46.1, ⟨d.Kept, List.replicate k 0⟩)) ?_ rfl (by first | (dsimp only; rfl) | rfl) (resR rfl (rv_cell (ys := _) 1 rfl rfl Try.isAgg43 Try.sizeOf43 rfl)); (dsimp only; first | exact ⟨by omega, by omega⟩ | exact ⟨by omega, by simp only [TDisk.size, List.length_replicate]; omega⟩))
          · intro h40
            refine awp_skip ?_
            refine awp_seq ?_
            refine awp_region ?_
            refine sq_plain rfl rfl rfl (w_loadA 1 rfl (ev_tmp rfl) rfl Try.isAgg43 Try.sizeOf43 rfl) ?_
            refine sq_storeB0 2 rfl rfl rfl (ev_tmp rfl) (ev_tmp rfl) (as_agg _) rfl Try.sizeOf43 rfl ?_
            refine sq_nil ?_
            refine awp_ret ?_
            (refine retG [0] ((x40.1, d)) ?_ rfl (by first | (dsimp only; rfl) | rfl) (resR rfl (rv_cell (ys := _) 2 rfl rfl Try.isAgg43 Try.sizeOf43 rfl)); (dsimp only; first | exact ⟨by omega, by omega⟩ | exact ⟨by omega, by simp only [TDisk.size, List.length_replicate]; omega⟩))
        · intro h37
          have k37 := ne_of_beqf h37; try simp only [List.length_map] at k37
          refine awp_skip ?_
          refine awp_seq ?_
          refine awp_region ?_
          refine sq_plain rfl rfl rfl (w_loadA 1 rfl (ev_tmp rfl) rfl Try.isAgg43 Try.sizeOf43 rfl) ?_
          refine sq_storeB0 2 rfl rfl rfl (ev_tmp rfl) (ev_tmp rfl) (as_agg _) rfl Try.sizeOf43 rfl ?_
          refine sq_nil ?_
          refine awp_ret ?_
          (refine retG [0] ((x7.1, d)) ?_ rfl (by first | (dsimp only; rfl) | rfl) (resR rfl (rv_cell (ys := _) 2 rfl rfl Try.isAgg43 Try.sizeOf43 rfl)); (dsimp only; first | exact ⟨by omega, by omega⟩ | exact ⟨by omega, by simp only [TDisk.size, List.length_replicate]; omega⟩))
theorem l6Whole_own (b : Nat) (code : List Int) (hcode : ByteL code) (c : TCur) (hp : c.p ≤ 2000000) : GSpec Try.prog 130 [AV.ptr b 0] [.box b 123 (curC code c)] (fun x : TCur × TDisk => x.1.p ≤ c.p + 90 ∧ x.2.size ≤ 60000) (fun x => [.box b 123 (curC code x.1)]) (fun x => AV.agg x.2.cs) := by
  refine gspec_of_awp Try.func130 rfl Try.ntmps130 rfl ?_
  refine awp_seq ?_
  refine awp_region ?_
  refine sq_alloc rfl rfl rfl rfl Try.zeroValue43 rfl ?_
  intro b2
  refine sq_nil ?_
  refine awp_seq ?_
  refine awp_region ?_
  refine sq_plain rfl rfl rfl (w_move rfl (ev_tmp rfl)) ?_
  refine sq_callG [1] rfl rfl rfl rfl Try.call224 rfl (l6Odd_own _ _ hcode _ (by omega)) (evl_cons (ev_tmp rfl) evl_nil) rfl ?_
  intro x5 ok5
  obtain ⟨⟨c5, d⟩, hx5⟩ : ∃ z, x5 = z := ⟨_, rfl⟩
  subst hx5
  obtain ⟨hcp5, hg5⟩ := ok5
  dsimp only at hcp5 hg5 ⊢
  have hd6 : d.Kept.length + d.Loose.length ≤ 60000 := hg5
  refine sq_alloc rfl rfl rfl rfl Try.zeroValue43 rfl ?_
  intro b3
  refine sq_storeB0 0 rfl rfl rfl (ev_tmp rfl) (ev_tmp rfl) (as_agg _) rfl Try.sizeOf43 rfl ?_
  refine sq_nil ?_
  refine awp_seq ?_
  refine awp_seq ?_
  refine awp_region ?_
  refine sq_plain rfl rfl rfl (w_move rfl (ev_tmp rfl)) ?_
  refine sq_callG [1] rfl rfl rfl rfl Try.call131 rfl (curPick_own _ _ hcode _ _ (by omega) (by omega)) (evl_cons (ev_tmp rfl) (evl_cons ev_ci evl_nil)) rfl ?_
  intro x7 ok7
  refine sq_plain rfl rfl rfl (w_gtr rfl (ev_tmp rfl) ev_ci) ?_
  refine sq_plain rfl rfl rfl (w_move rfl (ev_tmp rfl)) ?_
  refine sq_grd rfl rfl (guard_t rfl rfl rfl) (fun hc => w_loadA 1 rfl (ev_tmp rfl) rfl Try.isAgg43 Try.sizeOf43 rfl) ?_
  refine sq_grd rfl rfl (guard_t rfl rfl rfl) (fun hc => w_call rfl Try.call135 rfl (goodDiskS_spec d (by omega)) (evl_cons (ev_whn rfl hc) evl_nil)) ?_
  refine sq_plain rfl rfl rfl (w_and rfl (ev_tmp rfl) (evif_w rfl)) ?_
  refine sq_nil ?_
  refine awp_cond (ev_tmp rfl) ?_ ?_
  · intro h12
    refine awp_own (by first | (simp only [id, pick, List.eraseIdx_cons_zero, List.eraseIdx_cons_succ, List.set_cons_zero, List.set_cons_succ, List.cons_append, List.nil_append, List.getElem?_cons_zero, List.getElem?_cons_succ, List.append_nil, List.take_succ_cons, List.take_zero, List.drop_succ_cons, List.drop_zero]; exact rfl) | exact rfl) ?_
    refine awp_region_tree0 [] 14 (.pure 1 (.pure 2 (.pure 7 (.e2 0 (.e1 3 (.pure 4 (.pure 5 (.e1 6 (.e1 8 (.e1 9 (.pure 10 (.pure 11 (.pure 12 (.e1 13 .nil)))))))))) 3 (.pure 4 (.pure 5 (.e2 0 (.e1 6 (.e1 8 (.e1 9 (.pure 10 (.pure 11 (.pure 12 (.e1 13 .nil))))))) 6 (.e2 0 (.e1 8 (.e1 9 (.pure 10 (.pure 11 (.pure 12 (.e1 13 .nil)))))) 8 (.e1 0 (.e1 9 (.pure 10 (.pure 11 (.pure 12 (.e1 13 .nil)))))))))))))) (by kernel_rfl) (by kernel_rfl) rfl invx_all ?_
    refine bt_plain rfl rfl rfl (fun ext => w_move rfl (ev_tmp rfl)) ?_
    refine bt_plain rfl rfl rfl (fun ext => w_fldBn 1 rfl Try.underlying43 rfl Try.sizeOf9 (ev_tmp rfl) rfl) ?_
    refine bt_plain rfl rfl rfl (fun ext => w_move rfl (ev_tmp rfl)) ?_
    refine bt_e2 ?_ ?_
    · refine eff_s rfl rfl rfl (opE_pure (w_loadA 1 rfl (ev_tmp rfl) rfl Try.isAgg43 Try.sizeOf43 rfl)) (fun a _ => (by first | exact invx_mk rfl | exact invx_mk (List.append_assoc _ _ _) | exact invx_all)) ?_
      intro _ _
      refine bt_e1 ?_
      refine eff_s rfl rfl rfl (opE_pure (w_loadB1 1 rfl (ev_tmp rfl) rfl Try.isAgg9 rfl)) (fun a _ => (by first | exact invx_mk rfl | exact invx_mk (List.append_assoc _ _ _) | exact invx_all)) ?_
      intro _ _
      refine bt_plain rfl rfl rfl (fun ext => w_slen rfl Try.underlying9 (ev_tmp rfl)) ?_
      refine bt_plain rfl rfl rfl (fun ext => w_addi rfl (ev_tmp rfl) ev_ci (by first | omega | ((try simp only [List.length_map, List.length_take, List.length_cons, List.length_nil, chunks_len, szR] at *); omega) | (have hc2 := hc; simp only [Bool.and_eq_true, Bool.or_eq_true, Bool.or_eq_false_iff, Bool.and_eq_false_iff, Bool.not_eq_true', Bool.not_eq_false', decide_eq_true_eq, decide_eq_false_iff_not, beq_iff_eq, bne_iff_ne, List.length_map, List.length_take] at hc2; omega))) ?_
      refine bt_e1 ?_
      refine eff_s rfl rfl rfl (opE_call [0] rfl Try.call131 rfl (curPick_own _ _ hcode _ _ (by omega) (by omega)) (evl_cons (ev_tmp rfl) (evl_cons (ev_tmp rfl) evl_nil)) rfl) (fun a _ => (by first | exact invx_mk rfl | exact invx_mk (List.append_assoc _ _ _) | exact invx_all)) ?_
      intro x20 ok20
      refine bt_e1 ?_
      refine eff_s rfl rfl rfl (opE_call [2] rfl Try.call170 rfl (curOne_own _ _ hcode _ _ (by omega) (by omega)) (evl_cons (ev_tmp rfl) (evl_cons ev_ci evl_nil)) rfl) (fun a _ => (by first | exact invx_mk rfl | exact invx_mk (List.append_assoc _ _ _) | exact invx_all)) ?_
      intro x22 ok22
      refine bt_e1 ?_
      refine eff_s rfl rfl rfl (opE_call [] rfl Try.call225 rfl (fallDisk_own d _ _ (by omega)) (evl_cons (ev_tmp rfl) (evl_cons (ev_tmp rfl) (evl_cons (ev_tmp rfl) evl_nil))) rfl) (fun a _ => (by first | exact invx_mk rfl | exact invx_mk (List.append_assoc _ _ _) | exact invx_all)) ?_
      intro x23 ok23
      refine bt_plain rfl rfl rfl (fun ext => w_move rfl (ev_tmp rfl)) ?_
      refine bt_plain rfl rfl rfl (fun ext => w_extract rfl (ev_tmp rfl) rfl) ?_
      refine bt_plain rfl rfl rfl (fun ext => w_extract rfl (ev_tmp rfl) rfl) ?_
      refine bt_e1 ?_
      refine eff_s0 rfl rfl rfl (opE_storeB0 0 rfl rfl (ev_tmp rfl) (ev_tmp rfl) (as_agg _) rfl Try.sizeOf43 rfl) (fun a _ => (by first | exact invx_mk rfl | exact invx_mk (List.append_assoc _ _ _) | exact invx_all)) ?_
      intro _ _
      refine bt_nil ?_
      refine sq_nil ?_
      refine awp_seq ?_
      refine awp_region ?_
      refine sq_plain rfl rfl rfl (w_loadA 0 rfl (ev_tmp rfl) rfl Try.isAgg43 Try.sizeOf43 rfl) ?_
      refine sq_storeB0 1 rfl rfl rfl (ev_tmp rfl) (ev_tmp rfl) (as_agg _) rfl Try.sizeOf43 rfl ?_
      refine sq_nil ?_
      refine awp_ret ?_
      (refine retG [2] ((_, x23.1)) ?_ rfl (by first | (dsimp only; rfl) | rfl) (resR rfl (rv_cell (ys := _) 1 rfl rfl Try.isAgg43 Try.sizeOf43 rfl)); (dsimp only; exact ⟨by omega, by omega⟩))
    · refine eff_s rfl rfl rfl (opE_pure (w_loadB1 1 rfl (ev_tmp rfl) rfl Try.isAgg9 rfl)) (fun a _ => (by first | exact invx_mk rfl | exact invx_mk (List.append_assoc _ _ _) | exact invx_all)) ?_
      intro _ _
      refine bt_plain rfl rfl rfl (fun ext => w_slen rfl Try.underlying9 (ev_tmp rfl)) ?_
      refine bt_plain rfl rfl rfl (fun ext => w_addi rfl (ev_tmp rfl) ev_ci (by first | omega | ((try simp only [List.length_map, List.length_take, List.length_cons, List.length_nil, chunks_len, szR] at *); omega) | (have hc2 := hc; simp only [Bool.and_eq_true, Bool.or_eq_true, Bool.or_eq_false_iff, Bool.and_eq_false_iff, Bool.not_eq_true', Bool.not_eq_false', decide_eq_true_eq, decide_eq_false_iff_not, beq_iff_eq, bne_iff_ne, List.length_map, List.length_take] at hc2; omega))) ?_
      refine bt_e2 ?_ ?_
      · refine eff_s rfl rfl rfl (opE_pure (w_loadA 1 rfl (ev_tmp rfl) rfl Try.isAgg43 Try.sizeOf43 rfl)) (fun a _ => (by first | exact invx_mk rfl | exact invx_mk (List.append_assoc _ _ _) | exact invx_all)) ?_
        intro _ _
        refine bt_e1 ?_
        refine eff_s rfl rfl rfl (opE_call [0] rfl Try.call131 rfl (curPick_own _ _ hcode _ _ (by omega) (by omega)) (evl_cons (ev_tmp rfl) (evl_cons (ev_tmp rfl) evl_nil)) rfl) (fun a _ => (by first | exact invx_mk rfl | exact invx_mk (List.append_assoc _ _ _) | exact invx_all)) ?_
        intro x20 ok20
        refine bt_e1 ?_
        refine eff_s rfl rfl rfl (opE_call [2] rfl Try.call170 rfl (curOne_own _ _ hcode _ _ (by omega) (by omega)) (evl_cons (ev_tmp rfl) (evl_cons ev_ci evl_nil)) rfl) (fun a _ => (by first | exact invx_mk rfl | exact invx_mk (List.append_assoc _ _ _) | exact invx_all)) ?_
        intro x22 ok22
        refine bt_e1 ?_
        refine eff_s rfl rfl rfl (opE_call [] rfl Try.call225 rfl (fallDisk_own d _ _ (by omega)) (evl_cons (ev_tmp rfl) (evl_cons (ev_tmp rfl) (evl_cons (ev_tmp rfl) evl_nil))) rfl) (fun a _ => (by first | exact invx_mk rfl | exact invx_mk (List.append_assoc _ _ _) | exact invx_all)) ?_
        intro x23 ok23
        refine bt_plain rfl rfl rfl (fun ext => w_move rfl (ev_tmp rfl)) ?_
        refine bt_plain rfl rfl rfl (fun ext => w_extract rfl (ev_tmp rfl) rfl) ?_
        refine bt_plain rfl rfl rfl (fun ext => w_extract rfl (ev_tmp rfl) rfl) ?_
        refine bt_e1 ?_
        refine eff_s0 rfl rfl rfl (opE_storeB0 0 rfl rfl (ev_tmp rfl) (ev_tmp rfl) (as_agg _) rfl Try.sizeOf43 rfl) (fun a _ => (by first | exact invx_mk rfl | exact invx_mk (List.append_assoc _ _ _) | exact invx_all)) ?_
        intro _ _
        refine bt_nil ?_
        refine sq_nil ?_
        refine awp_seq ?_
        refine awp_region ?_
        refine sq_plain rfl rfl rfl (w_loadA 0 rfl (ev_tmp rfl) rfl Try.isAgg43 Try.sizeOf43 rfl) ?_
        refine sq_storeB0 1 rfl rfl rfl (ev_tmp rfl) (ev_tmp rfl) (as_agg _) rfl Try.sizeOf43 rfl ?_
        refine sq_nil ?_
        refine awp_ret ?_
        (refine retG [2] ((_, x23.1)) ?_ rfl (by first | (dsimp only; rfl) | rfl) (resR rfl (rv_cell (ys := _) 1 rfl rfl Try.isAgg43 Try.sizeOf43 rfl)); (dsimp only; exact ⟨by omega, by omega⟩))
      · refine eff_s rfl rfl rfl (opE_call [0] rfl Try.call131 rfl (curPick_own _ _ hcode _ _ (by omega) (by omega)) (evl_cons (ev_tmp rfl) (evl_cons (ev_tmp rfl) evl_nil)) rfl) (fun a _ => (by first | exact invx_mk rfl | exact invx_mk (List.append_assoc _ _ _) | exact invx_all)) ?_
        intro x20 ok20
        refine bt_e2 ?_ ?_
        · refine eff_s rfl rfl rfl (opE_pure (w_loadA 0 rfl (ev_tmp rfl) rfl Try.isAgg43 Try.sizeOf43 rfl)) (fun a _ => (by first | exact invx_mk rfl | exact invx_mk (List.append_assoc _ _ _) | exact invx_all)) ?_
          intro _ _
          refine bt_e1 ?_
          refine eff_s rfl rfl rfl (opE_call [2] rfl Try.call170 rfl (curOne_own _ _ hcode _ _ (by omega) (by omega)) (evl_cons (ev_tmp rfl) (evl_cons ev_ci evl_nil)) rfl) (fun a _ => (by first | exact invx_mk rfl | exact invx_mk (List.append_assoc _ _ _) | exact invx_all)) ?_
          intro x22 ok22
          refine bt_e1 ?_
          refine eff_s rfl rfl rfl (opE_call [] rfl Try.call225 rfl (fallDisk_own d _ _ (by omega)) (evl_cons (ev_tmp rfl) (evl_cons (ev_tmp rfl) (evl_cons (ev_tmp rfl) evl_nil))) rfl) (fun a _ => (by first | exact invx_mk rfl | exact invx_mk (List.append_assoc _ _ _) | exact invx_all)) ?_
          intro x23 ok23
          refine bt_plain rfl rfl rfl (fun ext => w_move rfl (ev_tmp rfl)) ?_
          refine bt_plain rfl rfl rfl (fun ext => w_extract rfl (ev_tmp rfl) rfl) ?_
          refine bt_plain rfl rfl rfl (fun ext => w_extract rfl (ev_tmp rfl) rfl) ?_
          refine bt_e1 ?_
          refine eff_s0 rfl rfl rfl (opE_storeB0 0 rfl rfl (ev_tmp rfl) (ev_tmp rfl) (as_agg _) rfl Try.sizeOf43 rfl) (fun a _ => (by first | exact invx_mk rfl | exact invx_mk (List.append_assoc _ _ _) | exact invx_all)) ?_
          intro _ _
          refine bt_nil ?_
          refine sq_nil ?_
          refine awp_seq ?_
          refine awp_region ?_
          refine sq_plain rfl rfl rfl (w_loadA 0 rfl (ev_tmp rfl) rfl Try.isAgg43 Try.sizeOf43 rfl) ?_
          refine sq_storeB0 1 rfl rfl rfl (ev_tmp rfl) (ev_tmp rfl) (as_agg _) rfl Try.sizeOf43 rfl ?_
          refine sq_nil ?_
          refine awp_ret ?_
          (refine retG [2] ((_, x23.1)) ?_ rfl (by first | (dsimp only; rfl) | rfl) (resR rfl (rv_cell (ys := _) 1 rfl rfl Try.isAgg43 Try.sizeOf43 rfl)); (dsimp only; exact ⟨by omega, by omega⟩))
        · refine eff_s rfl rfl rfl (opE_call [2] rfl Try.call170 rfl (curOne_own _ _ hcode _ _ (by omega) (by omega)) (evl_cons (ev_tmp rfl) (evl_cons ev_ci evl_nil)) rfl) (fun a _ => (by first | exact invx_mk rfl | exact invx_mk (List.append_assoc _ _ _) | exact invx_all)) ?_
          intro x22 ok22
          refine bt_e1 ?_
          refine eff_s rfl rfl rfl (opE_pure (w_loadA 0 rfl (ev_tmp rfl) rfl Try.isAgg43 Try.sizeOf43 rfl)) (fun a _ => (by first | exact invx_mk rfl | exact invx_mk (List.append_assoc _ _ _) | exact invx_all)) ?_
          intro _ _
          refine bt_e1 ?_
          refine eff_s rfl rfl rfl (opE_call [] rfl Try.call225 rfl (fallDisk_own d _ _ (by omega)) (evl_cons (ev_tmp rfl) (evl_cons (ev_tmp rfl) (evl_cons (ev_tmp rfl) evl_nil))) rfl) (fun a _ => (by first | exact invx_mk rfl | exact invx_mk (List.append_assoc _ _ _) | exact invx_all)) ?_
          intro x23 ok23
          refine bt_plain rfl rfl rfl (fun ext => w_move rfl (ev_tmp rfl)) ?_
          refine bt_plain rfl rfl rfl (fun ext => w_extract rfl (ev_tmp rfl) rfl) ?_
          refine bt_plain rfl rfl rfl (fun ext => w_extract rfl (ev_tmp rfl) rfl) ?_
          refine bt_e1 ?_
          refine eff_s0 rfl rfl rfl (opE_storeB0 0 rfl rfl (ev_tmp rfl) (ev_tmp rfl) (as_agg _) rfl Try.sizeOf43 rfl) (fun a _ => (by first | exact invx_mk rfl | exact invx_mk (List.append_assoc _ _ _) | exact invx_all)) ?_
          intro _ _
          refine bt_nil ?_
          refine sq_nil ?_
          refine awp_seq ?_
          refine awp_region ?_
          refine sq_plain rfl rfl rfl (w_loadA 0 rfl (ev_tmp rfl) rfl Try.isAgg43 Try.sizeOf43 rfl) ?_
          refine sq_storeB0 1 rfl rfl rfl (ev_tmp rfl) (ev_tmp rfl) (as_agg _) rfl Try.sizeOf43 rfl ?_
          refine sq_nil ?_
          refine awp_ret ?_
          (refine retG [2] ((_, x23.1)) ?_ rfl (by first | (dsimp only; rfl) | rfl) (resR rfl (rv_cell (ys := _) 1 rfl rfl Try.isAgg43 Try.sizeOf43 rfl)); (dsimp only; exact ⟨by omega, by omega⟩))
  · intro h12
    refine awp_skip ?_
    refine awp_seq ?_
    refine awp_region ?_
    refine sq_plain rfl rfl rfl (w_loadA 1 rfl (ev_tmp rfl) rfl Try.isAgg43 Try.sizeOf43 rfl) ?_
    refine sq_storeB0 2 rfl rfl rfl (ev_tmp rfl) (ev_tmp rfl) (as_agg _) rfl Try.sizeOf43 rfl ?_
    refine sq_nil ?_
    refine awp_ret ?_
    (refine retG [0] ((x7.1, d)) ?_ rfl (by first | (dsimp only; rfl) | rfl) (resR rfl (rv_cell (ys := _) 2 rfl rfl Try.isAgg43 Try.sizeOf43 rfl)); (dsimp only; exact ⟨by omega, by omega⟩))
theorem drawMendDisk_own (code : List Int) (hcode : ByteL code) : GSpec Try.prog 39 [bytesI code] [] (fun x : TDisk => x.size ≤ 60000) (fun x => []) (fun x => AV.agg x.cs) := by
  refine gspec_of_awp Try.func39 rfl Try.ntmps39 rfl ?_
  refine awp_seq ?_
  refine awp_region ?_
  refine sq_alloc rfl rfl rfl rfl Try.zeroValue43 rfl ?_
  intro b2
  refine sq_nil ?_
  refine awp_seq ?_
  refine awp_region ?_
  refine sq_plain rfl rfl rfl (w_move rfl (ev_tmp rfl)) ?_
  refine sq_plain rfl rfl rfl (w_build (places := #[(0, 1), (1, 1), (2, 1)]) rfl Try.underlying123 Try.zeroValue123 (fun w => by kernel_rfl) rfl (bp_cons (ev_tmp rfl) (as_list _ _) bp_nil) rfl) ?_
  refine sq_box rfl rfl rfl rfl (ev_tmp rfl) ?_
  intro b6
  refine sq_plain rfl rfl rfl (w_assign rfl (ev_tmp rfl)) ?_
  refine sq_nil ?_
  refine awp_seq ?_
  refine awp_region ?_
  refine sq_plain rfl rfl rfl (w_move rfl (ev_tmp rfl)) ?_
  refine sq_callG [0] rfl rfl rfl rfl Try.call130 rfl (l6Whole_own _ _ hcode ⟨0, 0⟩ (by decide)) (evl_cons (ev_tmp rfl) evl_nil) rfl ?_
  intro x8 ok8
  refine sq_storeB0 1 rfl rfl rfl (ev_tmp rfl) (ev_tmp rfl) (as_agg _) rfl Try.sizeOf43 rfl ?_
  refine sq_nil ?_
  refine awp_ret ?_
  (refine retG [] (x8.2) ?_ rfl (by first | (dsimp only; rfl) | rfl) (resR rfl (rv_cell (ys := _) 1 rfl rfl Try.isAgg43 Try.sizeOf43 rfl)); exact ok8.2)
theorem drawCutDisk_own (code : List Int) (hcode : ByteL code) : GSpec Try.prog 33 [bytesI code] [] (fun x : TDisk × Int => x.1.size ≤ 60000) (fun x => []) (fun x => AV.tup [AV.agg x.1.cs, AV.int x.2]) := by
  refine gspec_of_awp Try.func33 rfl Try.ntmps33 rfl ?_
  refine awp_seq ?_
  refine awp_region ?_
  refine sq_alloc rfl rfl rfl rfl Try.zeroValue43 rfl ?_
  intro b2
  refine sq_plain rfl rfl rfl (w_assign rfl ev_ci) ?_
  refine sq_nil ?_
  refine awp_seq ?_
  refine awp_region ?_
  refine sq_plain rfl rfl rfl (w_move rfl (ev_tmp rfl)) ?_
  refine sq_plain rfl rfl rfl (w_build (places := #[(0, 1), (1, 1), (2, 1)]) rfl Try.underlying123 Try.zeroValue123 (fun w => by kernel_rfl) rfl (bp_cons (ev_tmp rfl) (as_list _ _) bp_nil) rfl) ?_
  refine sq_box rfl rfl rfl rfl (ev_tmp rfl) ?_
  intro b8
  refine sq_plain rfl rfl rfl (w_assign rfl (ev_tmp rfl)) ?_
  refine sq_nil ?_
  refine awp_seq ?_
  refine awp_region ?_
  refine sq_plain rfl rfl rfl (w_move rfl (ev_tmp rfl)) ?_
  refine sq_callG [0] rfl rfl rfl rfl Try.call130 rfl (l6Whole_own _ _ hcode ⟨0, 0⟩ (by decide)) (evl_cons (ev_tmp rfl) evl_nil) rfl ?_
  intro x10 ok10
  have hp10 : x10.1.p ≤ 90 := ok10.1
  refine sq_alloc rfl rfl rfl rfl Try.zeroValue43 rfl ?_
  intro b5
  refine sq_storeB0 0 rfl rfl rfl (ev_tmp rfl) (ev_tmp rfl) (as_agg _) rfl Try.sizeOf43 rfl ?_
  refine sq_nil ?_
  refine awp_seq ?_
  refine awp_own (by first | (simp only [id, pick, List.eraseIdx_cons_zero, List.eraseIdx_cons_succ, List.set_cons_zero, List.set_cons_succ, List.cons_append, List.nil_append, List.getElem?_cons_zero, List.getElem?_cons_succ, List.append_nil, List.take_succ_cons, List.take_zero, List.drop_succ_cons, List.drop_zero]; exact rfl) | exact rfl) ?_
  refine awp_region_tree0 [] 6 (.pure 1 (.e2 0 (.e1 2 (.pure 3 (.e1 4 (.pure 5 .nil)))) 2 (.pure 3 (.e1 0 (.e1 4 (.pure 5 .nil)))))) (by kernel_rfl) (by kernel_rfl) rfl invx_all ?_
  refine bt_plain rfl rfl rfl (fun ext => w_move rfl (ev_tmp rfl)) ?_
  refine bt_e2 ?_ ?_
  · refine eff_s rfl rfl rfl (opE_pure (w_loadA 0 rfl (ev_tmp rfl) rfl Try.isAgg43 Try.sizeOf43 rfl)) (fun a _ => (by first | exact invx_mk rfl | exact invx_mk (List.append_assoc _ _ _) | exact invx_all)) ?_
    intro _ _
    refine bt_e1 ?_
    refine eff_s rfl rfl rfl (opE_call [1] rfl Try.call131 rfl (curPick_own _ _ hcode _ _ (by omega) (by omega)) (evl_cons (ev_tmp rfl) (evl_cons ev_ci evl_nil)) rfl) (fun a _ => (by first | exact invx_mk rfl | exact invx_mk (List.append_assoc _ _ _) | exact invx_all)) ?_
    intro x13 ok13
    refine bt_plain rfl rfl rfl (fun ext => w_subi rfl (ev_tmp rfl) ev_ci (by first | omega | ((try simp only [List.length_map, List.length_take, List.length_cons, List.length_nil, chunks_len, szR] at *); omega) | (have hc2 := hc; simp only [Bool.and_eq_true, Bool.or_eq_true, Bool.or_eq_false_iff, Bool.and_eq_false_iff, Bool.not_eq_true', Bool.not_eq_false', decide_eq_true_eq, decide_eq_false_iff_not, beq_iff_eq, bne_iff_ne, List.length_map, List.length_take] at hc2; omega))) ?_
    refine bt_e1 ?_
    refine eff_s0 rfl rfl rfl (opE_storeB0 1 rfl rfl (ev_tmp rfl) (ev_tmp rfl) (as_agg _) rfl Try.sizeOf43 rfl) (fun a _ => (by first | exact invx_mk rfl | exact invx_mk (List.append_assoc _ _ _) | exact invx_all)) ?_
    intro _ _
    refine bt_plain rfl rfl rfl (fun ext => w_assign rfl (ev_tmp rfl)) ?_
    refine bt_nil ?_
    refine sq_nil ?_
    refine awp_ret ?_
    (refine retG [] ((x10.2, x13.2 - 1)) ?_ rfl (by first | (dsimp only; rfl) | rfl) (resN rfl (by decide) (rv_cons (rv_cell (ys := _) 1 rfl rfl Try.isAgg43 Try.sizeOf43 rfl) (rv_cons (rv_tmp' rfl (by rfl)) rv_nil))); exact ok10.2)
  · refine eff_s rfl rfl rfl (opE_call [1] rfl Try.call131 rfl (curPick_own _ _ hcode _ _ (by omega) (by omega)) (evl_cons (ev_tmp rfl) (evl_cons ev_ci evl_nil)) rfl) (fun a _ => (by first | exact invx_mk rfl | exact invx_mk (List.append_assoc _ _ _) | exact invx_all)) ?_
    intro x13 ok13
    refine bt_plain rfl rfl rfl (fun ext => w_subi rfl (ev_tmp rfl) ev_ci (by first | omega | ((try simp only [List.length_map, List.length_take, List.length_cons, List.length_nil, chunks_len, szR] at *); omega) | (have hc2 := hc; simp only [Bool.and_eq_true, Bool.or_eq_true, Bool.or_eq_false_iff, Bool.and_eq_false_iff, Bool.not_eq_true', Bool.not_eq_false', decide_eq_true_eq, decide_eq_false_iff_not, beq_iff_eq, bne_iff_ne, List.length_map, List.length_take] at hc2; omega))) ?_
    refine bt_e1 ?_
    refine eff_s rfl rfl rfl (opE_pure (w_loadA 0 rfl (ev_tmp rfl) rfl Try.isAgg43 Try.sizeOf43 rfl)) (fun a _ => (by first | exact invx_mk rfl | exact invx_mk (List.append_assoc _ _ _) | exact invx_all)) ?_
    intro _ _
    refine bt_e1 ?_
    refine eff_s0 rfl rfl rfl (opE_storeB0 1 rfl rfl (ev_tmp rfl) (ev_tmp rfl) (as_agg _) rfl Try.sizeOf43 rfl) (fun a _ => (by first | exact invx_mk rfl | exact invx_mk (List.append_assoc _ _ _) | exact invx_all)) ?_
    intro _ _
    refine bt_plain rfl rfl rfl (fun ext => w_assign rfl (ev_tmp rfl)) ?_
    refine bt_nil ?_
    refine sq_nil ?_
    refine awp_ret ?_
    (refine retG [] ((x10.2, x13.2 - 1)) ?_ rfl (by first | (dsimp only; rfl) | rfl) (resN rfl (by decide) (rv_cons (rv_cell (ys := _) 1 rfl rfl Try.isAgg43 Try.sizeOf43 rfl) (rv_cons (rv_tmp' rfl (by rfl)) rv_nil))); exact ok10.2)
theorem vBig_spec (code : List Int) : FSpec Try.prog 32 [bytesI code] (AV.bool (decide (65536 < (code.length : Int)))) := by
  refine spec_of_awp Try.func32 rfl Try.ntmps32 rfl ?_
  refine awp_len (t := 0) rfl fun hl0 => ?_
  try simp only [List.length_map] at hl0
  refine awp_seq ?_
  refine awp_region ?_
  refine sq_plain rfl rfl rfl (w_assign rfl ev_cb) ?_
  refine sq_nil ?_
  refine awp_seq ?_
  refine awp_region ?_
  refine sq_plain rfl rfl rfl (w_move rfl (ev_tmp rfl)) ?_
  refine sq_plain rfl rfl rfl (w_llen rfl Try.underlying22 (ev_tmp rfl)) ?_
  refine sq_plain rfl rfl rfl (w_gtr rfl (ev_tmp rfl) ev_ci) ?_
  refine sq_plain rfl rfl rfl (w_assign rfl (ev_tmp rfl)) ?_
  refine sq_nil ?_
  refine awp_ret ?_
  exact retR rfl (rv_tmp' rfl (by (refine congrArg AV.bool ?_; simp only [List.length_map])))
theorem vAt_own (code : List Int) (hcode : ByteL code) (hcl : code.length ≤ 65536) (i : Int) (hi : 0 ≤ i ∧ i ≤ 1000000) : GSpec Try.prog 140 [bytesI code, AV.int i] [] (fun x : Int => 0 ≤ x ∧ x ≤ 255) (fun _ => []) (fun x => AV.int x) := by
  obtain ⟨k, rfl⟩ : ∃ k : Nat, i = (k : Int) := ⟨i.toNat, by omega⟩
  refine gspec_of_awp Try.func140 rfl Try.ntmps140 rfl ?_
  refine awp_seq ?_
  refine awp_region ?_
  try rw [wrapS hzb]
  refine sq_plain rfl rfl rfl (w_assign rfl ev_ci) ?_
  refine sq_nil ?_
  refine awp_seq ?_
  refine awp_seq ?_
  refine awp_region ?_
  refine sq_plain rfl rfl rfl (w_move rfl (ev_tmp rfl)) ?_
  refine sq_plain rfl rfl rfl (w_move rfl (ev_tmp rfl)) ?_
  refine sq_plain rfl rfl rfl (w_llen rfl Try.underlying22 (ev_tmp rfl)) ?_
  refine sq_plain rfl rfl rfl (w_lss rfl (ev_tmp rfl) (ev_tmp rfl)) ?_
  refine sq_nil ?_
  refine awp_cond (ev_tmp rfl) ?_ ?_
  · intro h8
    have k8 := of_decide_eq_true h8; try simp only [List.length_map] at k8
    obtain ⟨z, hz⟩ := get_some (show k < code.length by omega)
    have hzb := hcode z (List.mem_of_getElem? hz)
    refine awp_seq ?_
    refine awp_region ?_
    refine sq_plain rfl rfl rfl (w_move rfl (ev_tmp rfl)) ?_
    refine sq_plain rfl rfl rfl (w_move rfl (ev_tmp rfl)) ?_
    refine sq_plain rfl rfl rfl (w_idxm rfl Try.underlying22 Try.sizeOf5 (ev_tmp rfl) (ev_tmp rfl) hz rfl) ?_
    refine sq_plain rfl rfl rfl (w_loadE1 rfl (ev_tmp rfl) Try.isAgg5 rfl) ?_
    refine sq_plain rfl rfl rfl (w_conv rfl (by kernel_rfl) Try.underlying3 (ev_tmp rfl)) ?_
    try rw [wrapS hzb]
    refine sq_plain rfl rfl rfl (w_assign rfl (ev_tmp rfl)) ?_
    refine sq_nil ?_
    refine awp_ret ?_
    (refine retG [] (_) ?_ rfl (by first | (dsimp only; rfl) | rfl) (resR rfl (rv_tmp' rfl (by rfl))); first | exact hzb | exact ⟨Int.tmod_nonneg _ (by omega), by have := Int.tmod_lt_of_pos ((k : Int) * 7 + ((code.map fun x => [AV.ik .u8 x]).length : Int)) (show (0 : Int) < 256 by decide); omega⟩)
  · intro h8
    have k8 := of_decide_eq_false h8; try simp only [List.length_map] at k8
    refine awp_skip ?_
    refine awp_seq ?_
    refine awp_region ?_
    refine sq_plain rfl rfl rfl (w_move rfl (ev_tmp rfl)) ?_
    refine sq_plain rfl rfl rfl (w_muli rfl (ev_tmp rfl) ev_ci (by omega)) ?_
    refine sq_plain rfl rfl rfl (w_move rfl (ev_tmp rfl)) ?_
    refine sq_plain rfl rfl rfl (w_llen rfl Try.underlying22 (ev_tmp rfl)) ?_
    refine sq_plain rfl rfl rfl (w_addi rfl (ev_tmp rfl) (ev_tmp rfl) (by simp only [List.length_map]; omega)) ?_
    refine sq_plain rfl rfl rfl (w_rem rfl (ev_tmp rfl) ev_ci (by decide)) ?_
    try rw [wrapS hzb]
    refine sq_plain rfl rfl rfl (w_assign rfl (ev_tmp rfl)) ?_
    refine sq_nil ?_
    refine awp_ret ?_
    (refine retG [] (_) ?_ rfl (by first | (dsimp only; rfl) | rfl) (resR rfl (rv_tmp' rfl (by rfl))); first | exact hzb | exact ⟨Int.tmod_nonneg _ (by omega), by have := Int.tmod_lt_of_pos ((k : Int) * 7 + ((code.map fun x => [AV.ik .u8 x]).length : Int)) (show (0 : Int) < 256 by decide); omega⟩)
theorem vText_own (code : List Int) (hcode : ByteL code) (hcl : code.length ≤ 65536) (i : Int) (hi : 0 ≤ i ∧ i ≤ 1000) : GSpec Try.prog 42 [bytesI code, AV.int i] [] (fun x : Str => x.length ≤ 8) (fun _ => []) (fun x => AV.str x) := by
  refine gspec_of_awp Try.func42 rfl Try.ntmps42 rfl ?_
  refine awp_seq ?_
  refine awp_region ?_
  refine sq_plain rfl rfl rfl (w_assign rfl (ev_cs' (l := []) rfl)) ?_
  refine sq_nil ?_
  refine awp_seq ?_
  refine awp_region ?_
  refine sq_emptyarr rfl rfl rfl rfl Try.underlying22 Try.sizeOf5 ?_
  intro v7
  refine sq_plain rfl rfl rfl (w_assign rfl (ev_tmp rfl)) ?_
  refine sq_nil ?_
  refine awp_seq ?_
  refine awp_seq ?_
  refine awp_region ?_
  refine sq_plain rfl rfl rfl (w_assign rfl ev_ci) ?_
  refine sq_nil ?_
  refine awp_block ?_
  refine awp_loop_i3 [(0, _), (1, _), (4, _)] _ (fun (k : Nat) (bs : Str) (v : Value) => bs.length = k ∧ k ≤ 8) (fun (k : Nat) (bs : Str) (v : Value) => [.arr v 5 1 (bs.map byteC)]) (fun (k : Nat) (bs : Str) (v : Value) => [(5, AV.is v), (6, AV.int k)]) (fun (k : Nat) (bs : Str) (v : Value) => 9 - k) (0) ([]) (v7) ?_ (le_eq (by rfl) ⟨rfl, rfl, rfl, rfl, rfl, trivial⟩) ?_
  · exact ⟨rfl, Nat.zero_le _⟩
  intro k bs v hinv
  refine awp_seq ?_
  refine awp_seq ?_
  refine awp_region ?_
  refine sq_plain rfl rfl rfl (w_move rfl (ev_tmp rfl)) ?_
  refine sq_plain rfl rfl rfl (w_move rfl (ev_tmp rfl)) ?_
  refine sq_plain rfl rfl rfl (w_move rfl (ev_tmp rfl)) ?_
  refine sq_callG [] rfl rfl rfl rfl Try.call140 rfl (vAt_own _ hcode (by omega) _ (by omega)) (evl_cons (ev_tmp rfl) (evl_cons (ev_tmp rfl) evl_nil)) rfl ?_
  intro x11 ok11
  have ht0 := Int.tmod_lt_of_pos x11 (show (0 : Int) < 9 by decide)
  refine sq_plain rfl rfl rfl (w_rem rfl (ev_tmp rfl) ev_ci (by decide)) ?_
  refine sq_plain rfl rfl rfl (w_lss rfl (ev_tmp rfl) (ev_tmp rfl)) ?_
  refine sq_nil ?_
  refine awp_cond (ev_tmp rfl) ?_ ?_
  · intro h13
    have k13 := of_decide_eq_true h13; try simp only [List.length_map] at k13
    have hk8 : k < 9 := by omega
    refine awp_skip ?_
    refine awp_seq ?_
    refine awp_block ?_
    refine awp_region ?_
    refine sq_plain rfl rfl rfl (w_move rfl (ev_tmp rfl)) ?_
    refine sq_plain rfl rfl rfl (w_move rfl (ev_tmp rfl)) ?_
    refine sq_plain rfl rfl rfl (w_move rfl (ev_tmp rfl)) ?_
    refine sq_plain rfl rfl rfl (w_move rfl (ev_tmp rfl)) ?_
    refine sq_plain rfl rfl rfl (w_addi rfl (ev_tmp rfl) (ev_tmp rfl) (by first | omega | ((try simp only [List.length_map, List.length_take, List.length_cons, List.length_nil, chunks_len, szR] at *); omega) | (have hc2 := hc; simp only [Bool.and_eq_true, Bool.or_eq_true, Bool.or_eq_false_iff, Bool.and_eq_false_iff, Bool.not_eq_true', Bool.not_eq_false', decide_eq_true_eq, decide_eq_false_iff_not, beq_iff_eq, bne_iff_ne, List.length_map, List.length_take] at hc2; omega))) ?_
    refine sq_plain rfl rfl rfl (w_addi rfl (ev_tmp rfl) ev_ci (by first | omega | ((try simp only [List.length_map, List.length_take, List.length_cons, List.length_nil, chunks_len, szR] at *); omega) | (have hc2 := hc; simp only [Bool.and_eq_true, Bool.or_eq_true, Bool.or_eq_false_iff, Bool.and_eq_false_iff, Bool.not_eq_true', Bool.not_eq_false', decide_eq_true_eq, decide_eq_false_iff_not, beq_iff_eq, bne_iff_ne, List.length_map, List.length_take] at hc2; omega))) ?_
    refine sq_callG [] rfl rfl rfl rfl Try.call140 rfl (vAt_own _ hcode (by omega) _ (by omega)) (evl_cons (ev_tmp rfl) (evl_cons (ev_tmp rfl) evl_nil)) rfl ?_
    intro x22 ok22
    obtain ⟨y, hy⟩ : ∃ y : UInt8, IntKind.u8.wrap x22 = (y.toNat : Int) := ⟨_, ofInt_byte ok22⟩
    refine sq_plain rfl rfl rfl (w_conv rfl (by kernel_rfl) Try.underlying5 (ev_tmp rfl)) ?_
    rw [hy]
    refine sq_plain rfl rfl rfl (w_bslice rfl Try.underlying22 Try.sizeOf5 Try.zeroValue5 rfl rfl rfl rfl (bp_cons (ev_tmp rfl) (as_ik _ _) bp_nil) rfl rfl) ?_
    refine sq_append (by' := 1) 0 rfl rfl rfl rfl Try.underlying22 Try.type5 rfl rfl rfl rfl rfl rfl (ev_tmp rfl) (ev_tmp rfl) rfl (by first | omega | ((try simp only [List.length_map, List.length_take, List.length_cons, List.length_nil, chunks_len, szR] at *); omega) | (have hc2 := hc; simp only [Bool.and_eq_true, Bool.or_eq_true, Bool.or_eq_false_iff, Bool.and_eq_false_iff, Bool.not_eq_true', Bool.not_eq_false', decide_eq_true_eq, decide_eq_false_iff_not, beq_iff_eq, bne_iff_ne, List.length_map, List.length_take] at hc2; omega)) ?_
    intro v25_1
    refine sq_plain rfl rfl rfl (w_assign rfl (ev_tmp rfl)) ?_
    refine sq_nil ?_
    refine awp_region ?_
    refine sq_plain rfl rfl rfl (w_move rfl (ev_tmp rfl)) ?_
    refine sq_plain rfl rfl rfl (w_addi rfl (ev_tmp rfl) ev_ci (by first | omega | ((try simp only [List.length_map, List.length_take, List.length_cons, List.length_nil, chunks_len, szR] at *); omega) | (have hc2 := hc; simp only [Bool.and_eq_true, Bool.or_eq_true, Bool.or_eq_false_iff, Bool.and_eq_false_iff, Bool.not_eq_true', Bool.not_eq_false', decide_eq_true_eq, decide_eq_false_iff_not, beq_iff_eq, bne_iff_ne, List.length_map, List.length_take] at hc2; omega))) ?_
    refine sq_plain rfl rfl rfl (w_assign rfl (ev_tmp rfl)) ?_
    refine sq_nil ?_
    refine round_end3 k bs v (k + 1) (bs ++ [y]) (v25_1) ?_ ?_ (le_eq (by first | rfl | (rw [List.map_append]; rfl)) ⟨rfl, rfl, rfl, rfl, rfl, trivial⟩)
    · exact ⟨by simp only [List.length_append, List.length_cons, List.length_nil]; omega, by omega⟩
    · omega
  · intro h13
    have k13 := of_decide_eq_false h13; try simp only [List.length_map] at k13
    refine awp_exit ?_
    refine awp_seq ?_
    refine awp_region ?_
    refine sq_plain rfl rfl rfl (w_move rfl (ev_tmp rfl)) ?_
    refine sq_plain rfl rfl rfl (w_convBo (bs := bs) 0 (rfl) rfl Try.underlying22 Try.underlying5 Try.underlying9 (ev_tmp rfl)) ?_
    refine sq_plain rfl rfl rfl (w_assign rfl (ev_tmp rfl)) ?_
    refine sq_nil ?_
    refine awp_ret ?_
    (refine retG [] (bs) ?_ rfl (by first | (dsimp only; rfl) | rfl) (resR rfl (rv_tmp' rfl (by rfl))); (show bs.length ≤ 8; omega))
theorem vTexts_spec (a b : List Str) : FSpec Try.prog 44 [strs a, strs b] (AV.bool (decide (a = b))) := by
  refine spec_of_awp Try.func44 rfl Try.ntmps44 rfl ?_
  refine awp_len (t := 0) rfl fun hl => ?_
  try simp only [List.length_map] at hl
  refine awp_seq ?_
  refine awp_region ?_
  refine sq_plain rfl rfl rfl (w_assign rfl ev_cb) ?_
  refine sq_nil ?_
  refine awp_seq ?_
  refine awp_seq ?_
  refine awp_region ?_
  refine sq_plain rfl rfl rfl (w_move rfl (ev_tmp rfl)) ?_
  refine sq_plain rfl rfl rfl (w_llen rfl Try.underlying29 (ev_tmp rfl)) ?_
  refine sq_plain rfl rfl rfl (w_move rfl (ev_tmp rfl)) ?_
  refine sq_plain rfl rfl rfl (w_llen rfl Try.underlying29 (ev_tmp rfl)) ?_
  refine sq_plain rfl rfl rfl (w_neq rfl (ev_tmp rfl) (ev_tmp rfl)) ?_
  refine sq_nil ?_
  refine awp_cond (ev_tmp rfl) ?_ ?_
  · intro h10
    have k10 := ne_of_bne h10; try simp only [List.length_map] at k10
    have hab : a ≠ b := by intro hc; subst hc; exact k10 rfl
    refine awp_seq ?_
    refine awp_region ?_
    refine sq_plain rfl rfl rfl (w_assign rfl ev_cb) ?_
    refine sq_nil ?_
    refine awp_ret ?_
    exact retR rfl (rv_tmp' rfl (by exact congrArg AV.bool (by simp [hab])))
  · intro h10
    have k10 := eq_of_bne_false h10; try simp only [List.length_map] at k10
    have heq : a.length = b.length := by omega
    refine awp_skip ?_
    refine awp_seq ?_
    refine awp_seq ?_
    refine awp_region ?_
    refine sq_plain rfl rfl rfl (w_assign rfl ev_ci) ?_
    refine sq_nil ?_
    refine awp_block ?_
    refine awp_loop_i [(0, _), (1, _)] _ (fun (i : Nat) => i ≤ a.length ∧ a.take i = b.take i) (fun (i : Nat) => []) (fun (i : Nat) => [(5, AV.int i)]) (fun (i : Nat) => a.length - i) (0) ?_ (le_env ⟨rfl, rfl, rfl, trivial⟩) ?_
    · exact ⟨Nat.zero_le _, rfl⟩
    intro i hinv
    refine awp_seq ?_
    refine awp_seq ?_
    refine awp_region ?_
    refine sq_plain rfl rfl rfl (w_move rfl (ev_tmp rfl)) ?_
    refine sq_plain rfl rfl rfl (w_move rfl (ev_tmp rfl)) ?_
    refine sq_plain rfl rfl rfl (w_llen rfl Try.underlying29 (ev_tmp rfl)) ?_
    refine sq_plain rfl rfl rfl (w_lss rfl (ev_tmp rfl) (ev_tmp rfl)) ?_
    refine sq_nil ?_
    refine awp_cond (ev_tmp rfl) ?_ ?_
    · intro h14
      have k14 := of_decide_eq_true h14; try simp only [List.length_map] at k14
      have hlt : i < a.length := by omega
      obtain ⟨x, hx⟩ := get_some hlt
      obtain ⟨y, hy⟩ := get_some (show i < b.length by omega)
      refine awp_skip ?_
      refine awp_seq ?_
      refine awp_block ?_
      refine awp_seq ?_
      refine awp_region_any (by kernel_rfl) (by kernel_rfl) rfl ?_
      refine ch_plain rfl rfl (w_move rfl (ev_tmp rfl)) ?_
      refine ch_plain rfl rfl (w_move rfl (ev_tmp rfl)) ?_
      refine ch_plain rfl rfl (w_idxm rfl Try.underlying29 Try.sizeOf9 (ev_tmp rfl) (ev_tmp rfl) hx (by first | omega | ((try simp only [List.length_map, List.length_take, List.length_cons, List.length_nil, chunks_len, szR] at *); omega) | (have hc2 := hc; simp only [Bool.and_eq_true, Bool.or_eq_true, Bool.or_eq_false_iff, Bool.and_eq_false_iff, Bool.not_eq_true', Bool.not_eq_false', decide_eq_true_eq, decide_eq_false_iff_not, beq_iff_eq, bne_iff_ne, List.length_map, List.length_take] at hc2; omega))) ?_
      refine ch_plain rfl rfl (w_loadE1 rfl (ev_tmp rfl) Try.isAgg9 rfl) ?_
      refine ch_plain rfl rfl (w_move rfl (ev_tmp rfl)) ?_
      refine ch_plain rfl rfl (w_move rfl (ev_tmp rfl)) ?_
      refine ch_plain rfl rfl (w_idxm rfl Try.underlying29 Try.sizeOf9 (ev_tmp rfl) (ev_tmp rfl) hy (by first | omega | ((try simp only [List.length_map, List.length_take, List.length_cons, List.length_nil, chunks_len, szR] at *); omega) | (have hc2 := hc; simp only [Bool.and_eq_true, Bool.or_eq_true, Bool.or_eq_false_iff, Bool.and_eq_false_iff, Bool.not_eq_true', Bool.not_eq_false', decide_eq_true_eq, decide_eq_false_iff_not, beq_iff_eq, bne_iff_ne, List.length_map, List.length_take] at hc2; omega))) ?_
      refine ch_plain rfl rfl (w_loadE1 rfl (ev_tmp rfl) Try.isAgg9 rfl) ?_
      refine ch_plain rfl rfl (w_sneq rfl (ev_tmp rfl) (ev_tmp rfl)) ?_
      refine ch_nil ?_
      refine awp_cond (ev_tmp rfl) ?_ ?_
      · intro h25
        have hab : a ≠ b := by intro hc; subst hc; rw [hx] at hy; injection hy with hy; subst hy; simp at h25
        refine awp_seq ?_
        refine awp_region ?_
        refine sq_plain rfl rfl rfl (w_assign rfl ev_cb) ?_
        refine sq_nil ?_
        refine awp_ret ?_
        exact retR rfl (rv_tmp' rfl (by exact congrArg AV.bool (by simp [hab])))
      · intro h25
        refine awp_skip ?_
        refine awp_region ?_
        refine sq_plain rfl rfl rfl (w_move rfl (ev_tmp rfl)) ?_
        refine sq_plain rfl rfl rfl (w_addi rfl (ev_tmp rfl) ev_ci (by first | omega | ((try simp only [List.length_map, List.length_take, List.length_cons, List.length_nil, chunks_len, szR] at *); omega) | (have hc2 := hc; simp only [Bool.and_eq_true, Bool.or_eq_true, Bool.or_eq_false_iff, Bool.and_eq_false_iff, Bool.not_eq_true', Bool.not_eq_false', decide_eq_true_eq, decide_eq_false_iff_not, beq_iff_eq, bne_iff_ne, List.length_map, List.length_take] at hc2; omega))) ?_
        refine sq_plain rfl rfl rfl (w_assign rfl (ev_tmp rfl)) ?_
        refine sq_nil ?_
        refine round_end i (i + 1) ?_ ?_ (le_env ⟨rfl, rfl, rfl, trivial⟩)
        · exact ⟨by omega, take_eq_succ hinv.2 hx (by rw [hy]; congr 1; simp_all)⟩
        · omega
    · intro h14
      have k14 := of_decide_eq_false h14; try simp only [List.length_map] at k14
      have hge : a.length ≤ i := by omega
      have hab : a = b := take_eq_of heq hinv.2 hge
      refine awp_exit ?_
      refine awp_seq ?_
      refine awp_region ?_
      refine sq_plain rfl rfl rfl (w_assign rfl ev_cb) ?_
      refine sq_nil ?_
      refine awp_ret ?_
      exact retR rfl (rv_tmp' rfl (by exact congrArg AV.bool (by simp [hab])))
end Go.Proofs.Yteliahajeokciaa

set_option linter.unusedVariables false
set_option linter.unusedSimpArgs false
namespace Go.M
open Go.AV
theorem frB_len {s : Str} (h : s.length ≤ 1048576) : (frameB s).length ≤ s.length + 12 := by
  rw [frameB_len]; have := numB_len (k := 9) (n := s.length) (by omega) (by decide); omega
theorem mendable_facts {d : TDisk} (h : mendable d = true) : d.Kept.length ≤ 50000 ∧ d.Loose = [] ∧ goodDisk d = true := by
  unfold mendable at h
  simp only [Bool.and_eq_true] at h
  obtain ⟨h1, h2⟩ := h
  have := of_decide_eq_true h1
  exact ⟨by omega, by simpa using h2, h1⟩
theorem goodD_of {d : TDisk} (h : d.Kept.length + d.Loose.length ≤ 50000) : goodDisk d = true := by
  unfold goodDisk; simp only [decide_eq_true_eq]; omega
theorem framesOn_of {d : TDisk} (h : mendable d = true) : framesOnD d = ((framesB d.Kept).1, ((framesB d.Kept).2 : Int), true) := by
  obtain ⟨h1, h2, h3⟩ := mendable_facts h
  unfold framesOnD
  rw [h3, h2, List.append_nil]; rfl
theorem ifDisk_of {d : TDisk} (h : goodDisk d = true) : ifDisk d = (d, true) := by unfold ifDisk; rw [h]; rfl
theorem writeD_of {d : TDisk} {s : Str} (h : goodDisk d = true) (hs : s.length ≤ 700) (h2 : d.Kept.length + d.Loose.length + (frameB s).length ≤ 50000) : writeD d s = (⟨d.Kept, d.Loose ++ frameB s⟩, true) := by
  unfold writeD
  rw [h, if_neg (by simp; omega)]
  exact ifDisk_of (goodD_of (by simp only [List.length_append]; omega))
theorem syncR_of {d : TDisk} (h2 : d.Kept.length + d.Loose.length ≤ 50000) : syncR d = (⟨d.Kept ++ d.Loose, []⟩, true) := ifDisk_of (goodD_of (by simp only [List.length_append, List.length_nil]; omega))
/-- What mending tells. -/
theorem mend_ok {d : TDisk} (h : (mendD d).2 = true) : mendable d = true ∧ mendD d = (⟨((framesB d.Kept).1.map frameB).flatten, []⟩, true) := by
  unfold mendD at h ⊢
  split at h
  · cases h
  · rename_i hm
    rw [if_neg hm]
    exact ⟨by simpa using hm, by rw [(frames_facts d.Kept).2.2]⟩
structure MendFacts (d : TDisk) (s : Str) (l : List Str) : Prop where
  before : framesOnD d = (l, ((framesB d.Kept).2 : Int), true)
  write : writeD ⟨(l.map frameB).flatten, []⟩ s = (⟨(l.map frameB).flatten, frameB s⟩, true)
  sync : syncR ⟨(l.map frameB).flatten, frameB s⟩ = (⟨((l ++ [s]).map frameB).flatten, []⟩, true)
  frames : framesOnD ⟨((l ++ [s]).map frameB).flatten, []⟩ = (l ++ [s], ((((l ++ [s]).map frameB).flatten.length : Nat) : Int), true)
  again : mendD ⟨((l ++ [s]).map frameB).flatten, []⟩ = (⟨((l ++ [s]).map frameB).flatten, []⟩, true)
theorem mend_law {d : TDisk} {s : Str} {l : List Str} (h : mendable d = true) (hl : (framesB d.Kept).1 = l) (hs : s.length ≤ 8) (hk : ((l.map frameB).flatten).length ≤ 40000) : MendFacts d s l := by
  have h7 : ∀ t ∈ l, t.length ≤ 700 := hl ▸ (frames_facts d.Kept).1
  have hfs := frB_len (s := s) (by omega)
  have hsn : ((l ++ [s]).map frameB).flatten = (l.map frameB).flatten ++ frameB s := by simp
  have h78 : ∀ t ∈ l ++ [s], t.length ≤ 700 := fun t ht => by
    rcases List.mem_append.1 ht with ht | ht
    · exact h7 t ht
    · rw [List.mem_singleton.1 ht]; omega
  have hfr := framesB_of (l ++ [s]) h78
  have hl9 : (((l ++ [s]).map frameB).flatten).length ≤ 50000 := by rw [hsn, List.length_append]; omega
  have hg : mendable ⟨((l ++ [s]).map frameB).flatten, []⟩ = true := by
    unfold mendable
    rw [goodD_of (by simp only [List.length_nil]; omega)]; rfl
  refine ⟨by rw [framesOn_of h, hl], ?_, ?_, ?_, ?_⟩
  · exact writeD_of (goodD_of (by simp only [List.length_nil]; omega)) (by omega) (by simp only [List.length_nil]; omega)
  · rw [syncR_of (by dsimp only; omega)]; dsimp only; rw [hsn]
  · rw [framesOn_of hg]; dsimp only; rw [hfr]
  · unfold mendD
    rw [hg, if_neg (by decide)]
    dsimp only
    rw [hfr, List.take_length]
/-- What cutting tells. -/
theorem cut_bad {d : TDisk} {n : Int} (h : (cutR d n).2 = false) : (cutR d n).1 = emptyD := by
  unfold cutR at h ⊢
  split
  · rfl
  · rename_i h1
    rw [if_neg h1] at h
    split
    · rfl
    · rename_i h2; rw [if_neg h2] at h; cases h
theorem cut_ok {d : TDisk} {n : Int} (h : (cutR d n).2 = true) : mendable d = true ∧ ∃ m : Nat, n = (m : Int) ∧ m ≤ (framesB d.Kept).1.length ∧ cutR d n = (⟨(((framesB d.Kept).1.take m).map frameB).flatten, []⟩, true) := by
  rw [cut_eq] at h ⊢
  unfold cutS at h ⊢
  split at h
  · cases h
  · rename_i h1
    rw [if_neg h1]
    split at h
    · cases h
    · rename_i h2
      rw [if_neg h2]
      have hw : 0 ≤ n ∧ n ≤ (framesB d.Kept).1.length := by unfold within at h2; simp at h2; omega
      exact ⟨by simpa using h1, n.toNat, by omega, by omega, rfl⟩
theorem frames_size (s : Str) : (((framesB s).1.map frameB).flatten).length ≤ s.length := by
  obtain ⟨_, h2, h3⟩ := frames_facts s
  rw [← h3, List.length_take]; omega
theorem cut_write {d : TDisk} {l : List Str} {i : Nat} {x : Str} (h : mendable d = true) (hl : (framesB d.Kept).1 = l) (hx : l[i]? = some x) : writeD ⟨[], ((l.take i).map frameB).flatten⟩ x = (⟨[], ((l.take (i + 1)).map frameB).flatten⟩, true) := by
  have h7 : ∀ t ∈ l, t.length ≤ 700 := hl ▸ (frames_facts d.Kept).1
  obtain ⟨hm, _, _⟩ := mendable_facts h
  have hz := frames_size d.Kept
  rw [hl] at hz
  have hs9 : sizeF (l.take (i + 1)) ≤ sizeF l := sizeF_take
  unfold sizeF at hs9
  have hn : ((l.take (i + 1)).map frameB).flatten = ((l.take i).map frameB).flatten ++ frameB x := by rw [List.take_add_one, hx]; simp
  rw [hn, List.length_append] at hs9
  rw [hn]
  exact writeD_of (goodD_of (by simp only [List.length_nil]; omega)) (h7 x (List.mem_of_getElem? hx)) (by simp only [List.length_nil]; omega)
theorem cut_sync {d : TDisk} {l : List Str} {m : Nat} (h : mendable d = true) (hl : (framesB d.Kept).1 = l) : syncR ⟨[], ((l.take m).map frameB).flatten⟩ = (⟨((l.take m).map frameB).flatten, []⟩, true) := by
  obtain ⟨hm, _, _⟩ := mendable_facts h
  have hz := frames_size d.Kept
  rw [hl] at hz
  have hs9 : sizeF (l.take m) ≤ sizeF l := sizeF_take
  unfold sizeF at hs9
  exact syncR_of (by simp only [List.length_nil]; omega)
end Go.M

set_option linter.unusedVariables false
set_option linter.unusedSimpArgs false
namespace Go.AV
open Go.ChangeShapes Go.WideShapes Go.ChangeAt Go.RowKit

def heapR (w : World) : RHeap := fun b => w.heap[b]?
theorem heapR_le (w : World) : RLe (heapR w) w := fun _ _ h => h
theorem rcell_heap {w : World} {a : Addr} {v : Value} (h : w.cell? a = some v) : rcell (heapR w) a = some v := h

/-- Cells that read as data of type t denote some a. -/
def Opens (P : Program) (t : TypeId) (α : Type) (enc : α → List AV) (ok : α → Prop) : Prop :=
  ∀ (H : Type) (en : TypeId × Value → H) (w : World) (base : Nat) (spare : Nat → Bool) (held : Bool) (fuel : Nat) (cs : List Value) (x : DataW H × List MemPlace),
    DataW.trod en P w base spare held fuel t cs = some x → ∃ a : α, ok a ∧ DenC (heapR w) cs (enc a)
theorem denC_one {R : RHeap} {v : Value} {x : AV} (h : x.den R v) (h1 : v.oneCell' = true) : DenC R [v] [x] :=
  ⟨rfl, fun i u y hu hy => by
    cases i with
    | zero => simp at hu hy; subst hu; subst hy; exact ⟨h, h1⟩
    | succ i => simp at hu⟩
theorem denC_append {R : RHeap} {vs us : List Value} {xs ys : List AV} (h : DenC R vs xs) (k : DenC R us ys) : DenC R (vs ++ us) (xs ++ ys) :=
  ⟨by simp [h.1, k.1], fun i v x hv hx => by
    by_cases hi : i < vs.length
    · rw [List.getElem?_append_left hi] at hv
      rw [List.getElem?_append_left (by rw [← h.1]; exact hi)] at hx
      exact h.2 i v x hv hx
    · rw [List.getElem?_append_right (by omega)] at hv
      rw [List.getElem?_append_right (by rw [← h.1]; omega), ← h.1] at hx
      exact k.2 _ v x hv hx⟩
section
variable {P : Program} {t e : TypeId}
theorem opens_int {k : IntKind} (ht : P.underlying t = some (.int k)) : Opens P t Int (fun n => [AV.ik k n]) (fun n => (Lit.int k n).wf = true) := fun H en w base spare held fuel cs x h => by
  obtain ⟨n, rfl, _, hw⟩ := DataW.trod_int ht h
  exact ⟨n, hw, denC_one rfl rfl⟩
theorem opens_bool (ht : P.underlying t = some .bool) : Opens P t Bool (fun b => [AV.bool b]) (fun _ => True) := fun H en w base spare held fuel cs x h => by
  obtain ⟨b, rfl, _⟩ := DataW.trod_bool ht h
  exact ⟨b, trivial, denC_one rfl rfl⟩
theorem opens_str (ht : P.underlying t = some .string) : Opens P t (List UInt8) (fun s => [AV.str s]) (fun s => s.length ≤ 9223372036854775807) := fun H en w base spare held fuel cs x h => by
  obtain ⟨s, rfl, _, hs⟩ := DataW.trod_string ht h
  refine ⟨s.data.toList, ?_, denC_one (show _ = _ by simp) rfl⟩
  unfold maxLen at hs
  show s.data.toList.length ≤ _
  rw [Array.length_toList]
  have e : s.data.size = s.size := rfl
  omega
theorem list_of {α : Type} {p : Nat → α → Prop} : ∀ n, (∀ i, i < n → ∃ a, p i a) → ∃ l : List α, l.length = n ∧ ∀ (i : Nat) (a : α), l[i]? = some a → p i a
  | 0, _ => ⟨[], rfl, fun i a h => by simp at h⟩
  | n + 1, h => by
    obtain ⟨l, h1, h2⟩ := list_of n fun i hi => h i (by omega)
    obtain ⟨a, ha⟩ := h n (by omega)
    refine ⟨l ++ [a], by simp [h1], fun i b hb => ?_⟩
    by_cases hi : i < l.length
    · rw [List.getElem?_append_left hi] at hb; exact h2 i b hb
    · rw [List.getElem?_append_right (by omega)] at hb
      have hin : i = n := by
        have := (List.getElem?_eq_some_iff.1 hb).1
        simp at this; omega
      subst hin
      rw [h1] at hb; simp at hb; subst hb; exact ha
theorem opens_slice {α : Type} {enc : α → List AV} {ok : α → Prop} {sz : Nat} (ht : P.underlying t = some (.slice e)) (hc : P.cellsOf e = sz) (h : Opens P e α enc ok) (hl : ∀ a, (enc a).length = sz) :
    Opens P t (List α) (fun l => [AV.list sz (l.map enc)]) (fun l => ∀ a ∈ l, ok a) := fun H en w base spare held fuel cs x hx => by
  rcases DataW.trod_slice ht hx with ⟨rfl, _⟩ | ⟨a, len, cap, elems, rest, n, _, rfl, _, _, hlc, hcm, hel, hi, _, _⟩
  · exact ⟨[], by simp, denC_one ⟨none, 0, rfl, Nat.le_refl _, Nat.zero_le _, by simp, fun h => absurd rfl h⟩ rfl⟩
  · obtain ⟨l, h1, h2⟩ := list_of (p := fun i b => ok b ∧ ∃ cs', w.cells? base (a.add (i * sz)) sz = some cs' ∧ DenC (heapR w) cs' (enc b)) len fun i hil => by
      have := hi i hil
      rw [hc, List.getElem?_eq_getElem (by omega)] at this
      obtain ⟨cs', hcs, htr⟩ := Option.bind_eq_some_iff.1 this
      obtain ⟨b, hb, hd⟩ := h H en w base spare held n cs' _ htr
      exact ⟨b, hb, cs', hcs, hd⟩
    refine ⟨l, fun b hb => ?_, denC_one ⟨some a, cap, by rw [List.length_map, h1], by rw [List.length_map, h1]; exact hlc, hcm, fun ec he => ?_, fun _ => ⟨a, rfl, fun j y hy => ?_⟩⟩ rfl⟩
    · obtain ⟨i, hib⟩ := List.getElem?_of_mem hb
      exact (h2 i b hib).1
    · obtain ⟨b, _, rfl⟩ := List.mem_map.1 he
      exact hl b
    · have hun : ∀ ec ∈ l.map enc, ec.length = sz := fun ec he => by
        obtain ⟨b, _, rfl⟩ := List.mem_map.1 he
        exact hl b
      have hjl : j < l.length * sz := by
        have := (List.getElem?_eq_some_iff.1 hy).1
        rwa [flatten_len hun, List.length_map] at this
      have hsz : 0 < sz := by
        rcases Nat.eq_zero_or_pos sz with h0 | h0
        · subst h0; omega
        · exact h0
      have hij : j / sz < l.length := Nat.div_lt_of_lt_mul (by rw [Nat.mul_comm]; exact hjl)
      have hkm : j % sz < sz := Nat.mod_lt _ hsz
      have hjj : j / sz * sz + j % sz = j := by rw [Nat.mul_comm]; exact Nat.div_add_mod j sz
      have hb : l[j / sz]? = some l[j / sz] := List.getElem?_eq_getElem hij
      obtain ⟨_, cs', hcs, hd⟩ := h2 _ _ hb
      obtain ⟨_, hcl, hat⟩ := World.cells?_some hcs
      have hk : (enc l[j / sz])[j % sz]? = some ((enc l[j / sz])[j % sz]'(by rw [hl]; exact hkm)) := List.getElem?_eq_getElem _
      have hyk := flatten_get hun (i := j / sz) (e := enc l[j / sz]) (by rw [List.getElem?_map, hb]; rfl) hk
      rw [hjj, hy] at hyk
      injection hyk with hyk
      have hv : cs'[j % sz]? = some (cs'[j % sz]'(by rw [hcl]; exact hkm)) := List.getElem?_eq_getElem _
      have hcell := hat (j % sz) hkm
      rw [hv, add_add, hjj] at hcell
      refine ⟨_, rcell_heap hcell, ?_⟩
      have := hd.2 _ _ _ hv hk
      rw [hyk]; exact this
/-- The fields of a struct, from an offset on. -/
def OpensF (P : Program) (fs : List Field) (off : Nat) (α : Type) (enc : α → List AV) (ok : α → Prop) (total : Nat) : Prop :=
  ∀ (H : Type) (en : TypeId × Value → H) (w : World) (base : Nat) (spare : Nat → Bool) (held : Bool) (fuel : Nat) (cs : List Value), cs.length = total →
    (∀ f ∈ fs, ∃ x, DataW.trod en P w base spare held fuel f.type ((cs.drop f.offset).take (P.cellsOf f.type)) = some x) → ∃ a : α, ok a ∧ DenC (heapR w) (cs.drop off) (enc a)
theorem opensF_nil {total : Nat} : OpensF P [] total Unit (fun _ => []) (fun _ => True) total := fun H en w base spare held fuel cs hl _ =>
  ⟨(), trivial, by rw [List.drop_eq_nil_of_le (by omega)]; exact ⟨rfl, fun i v x h => by simp at h⟩⟩
theorem opensF_cons {α β : Type} {f : Field} {fs : List Field} {off m total : Nat} {enc : α → List AV} {enc' : β → List AV} {ok : α → Prop} {ok' : β → Prop} (h : Opens P f.type α enc ok) (ho : f.offset = off) (hm : P.cellsOf f.type = m)
    (k : OpensF P fs (off + m) β enc' ok' total) : OpensF P (f :: fs) off (α × β) (fun a => enc a.1 ++ enc' a.2) (fun a => ok a.1 ∧ ok' a.2) total := fun H en w base spare held fuel cs hl hf => by
  obtain ⟨x, hx⟩ := hf f (by simp)
  rw [ho, hm] at hx
  obtain ⟨a, h1, h2⟩ := h H en w base spare held fuel _ x hx
  obtain ⟨b, h3, h4⟩ := k H en w base spare held fuel cs hl fun g hg => hf g (by simp [hg])
  refine ⟨(a, b), ⟨h1, h3⟩, ?_⟩
  have := denC_append h2 h4
  rwa [← List.drop_drop, List.take_append_drop] at this
theorem opens_struct {α : Type} {fs : Array Field} {enc : α → List AV} {ok : α → Prop} {total : Nat} (ht : P.underlying t = some (.struct fs)) (hc : P.cellsOf t = total) (h : OpensF P fs.toList 0 α enc ok total) : Opens P t α enc ok := fun H en w base spare held fuel cs x hx => by
  obtain ⟨xs, n, _, _, hl, hxl, hf⟩ := DataW.trod_struct ht hx
  obtain ⟨a, h1, h2⟩ := h H en w base spare held n cs (by rw [hl, hc]) fun f hfm => by
    obtain ⟨i, hi⟩ := List.getElem?_of_mem hfm
    have hi' : fs[i]? = some f := by rw [← Array.getElem?_toList]; exact hi
    have hlt : i < xs.length := by
      have := (Array.getElem?_eq_some_iff.1 hi').1
      omega
    exact ⟨xs[i], (hf i f hi').trans (List.getElem?_eq_getElem hlt)⟩
  exact ⟨a, h1, by simpa using h2⟩
theorem opens_map {α β : Type} {enc : α → List AV} {enc' : β → List AV} {ok : α → Prop} {ok' : β → Prop} (f : α → β) (h : Opens P t α enc ok) (he : ∀ a, enc' (f a) = enc a) (ho : ∀ a, ok a → ok' (f a)) : Opens P t β enc' ok' := fun H en w base spare held fuel cs x hx => by
  obtain ⟨a, h1, h2⟩ := h H en w base spare held fuel cs x hx
  exact ⟨f a, ho a h1, by rw [he]; exact h2⟩
/-- An argument that is a struct. -/
theorem arg_agg {H : Type} {en : TypeId × Value → H} {W : World} {base b0 : Nat} {spare : Nat → Bool} {held : Bool} {r : Reach} {α : Type} {fs : Array Field} {enc : α → List AV} {ok : α → Prop} {v : Value} {d : DataW H} {p : List MemPlace}
    (h : Opens P t α enc ok) (ht : P.underlying t = some (.struct fs)) (hv : Value.okWide P W r b0 t v) (hd : DataW.Trod en P W base spare held t v d p) : ∃ a, ok a ∧ (AV.agg (enc a)).den (heapR W) v := by
  obtain ⟨cs, rfl, _⟩ := okWide_struct ht hv
  obtain ⟨fuel, hf⟩ := hd
  obtain ⟨a, h1, h2⟩ := h H en W base spare held fuel _ _ hf
  exact ⟨a, h1, cs.toList, rfl, h2⟩
/-- An argument of one cell. -/
theorem arg_one {H : Type} {en : TypeId × Value → H} {W : World} {base : Nat} {spare : Nat → Bool} {held : Bool} {α : Type} {enc : α → AV} {ok : α → Prop} {v : Value} {d : DataW H} {p : List MemPlace}
    (h : Opens P t α (fun a => [enc a]) ok) (h1 : v.cells = #[v]) (hd : DataW.Trod en P W base spare held t v d p) : ∃ a, ok a ∧ (enc a).den (heapR W) v := by
  obtain ⟨fuel, hf⟩ := hd
  rw [h1] at hf
  obtain ⟨a, h2, h3⟩ := h H en W base spare held fuel _ _ hf
  exact ⟨a, h2, (h3.2 0 v _ rfl rfl).1⟩
theorem law_calls {f : FuncId} {xs : List AV} {b : Bool} {W : World} {vs : List Value} (h : FSpec P f xs (AV.bool b)) (hd : DenV (heapR W) vs xs) :
    Calls P f vs.toArray W fun e w' => e = .returned (.bool b) ∧ Below W.heap.size W w' :=
  (h (heapR W) W vs (heapR_le W) hd).mono fun e w' ⟨v, R', h1, h2, _, _, h5⟩ => ⟨by rw [h1]; exact congrArg Ending.returned h2, h5⟩
end
end Go.AV

set_option linter.unusedVariables false
set_option linter.unusedSimpArgs false
set_option maxRecDepth 100000
set_option maxHeartbeats 1000000
namespace Go.Proofs.Yteliahajeokciaa
open Go Go.AV Go.M
open Go.ChangeShapes Go.WideShapes Go.ChangeAt Go.RowKit
section
attribute [local irreducible] OpW OpA OpS AWP FSpec ESpec GSpec OpE RetOk RetOkG RvDen Le Ev GuardIs SrcIs
theorem fnMend_spec (code : List Int) (hc : ∀ x ∈ code, (Lit.int .u8 x).wf = true) : FSpec Try.prog 5 [bytesI code] (AV.bool true) := by
  refine spec_of_awp Try.func5 rfl Try.ntmps5 rfl ?_
  refine awp_seq ?_
  refine awp_region ?_
  refine sq_plain rfl rfl rfl (w_assign rfl ev_cb) ?_
  refine sq_nil ?_
  refine awp_seq ?_
  refine awp_seq ?_
  refine awp_region ?_
  refine sq_plain rfl rfl rfl (w_move rfl (ev_tmp rfl)) ?_
  refine sq_plain rfl rfl rfl (w_call rfl Try.call32 rfl (vBig_spec _) (evl_cons (ev_tmp rfl) evl_nil)) ?_
  refine sq_nil ?_
  refine awp_cond (ev_tmp rfl) ?_ ?_
  · intro h22
    refine awp_seq ?_
    refine awp_region ?_
    refine sq_plain rfl rfl rfl (w_assign rfl ev_cb) ?_
    refine sq_nil ?_
    refine awp_ret ?_
    exact retR rfl (rv_tmp' rfl (by first | rfl | exact congrArg AV.bool (by simp)))
  · intro h22
    have hcode : ByteL code := byteL_of hc
    have hcl : code.length ≤ 65536 := by have h9 := of_decide_eq_false h22; omega
    refine awp_skip ?_
    refine awp_seq ?_
    refine awp_region ?_
    refine sq_plain rfl rfl rfl (w_move rfl (ev_tmp rfl)) ?_
    refine sq_callG [] rfl rfl rfl rfl Try.call39 rfl (drawMendDisk_own code hcode) (evl_cons (ev_tmp rfl) evl_nil) rfl ?_
    intro x24 ok24
    obtain ⟨d, hd24⟩ : ∃ d, x24 = d := ⟨_, rfl⟩
    subst hd24
    have hdz : x24.size ≤ 60000 := ok24
    refine sq_alloc rfl rfl rfl rfl Try.zeroValue43 rfl ?_
    intro b3
    refine sq_storeB0 0 rfl rfl rfl (ev_tmp rfl) (ev_tmp rfl) (as_agg _) rfl Try.sizeOf43 rfl ?_
    refine sq_nil ?_
    refine awp_seq ?_
    refine awp_region ?_
    refine sq_plain rfl rfl rfl (w_loadA 0 rfl (ev_tmp rfl) rfl Try.isAgg43 Try.sizeOf43 rfl) ?_
    refine sq_plain rfl rfl rfl (w_call rfl Try.call40 rfl (mendDisk_spec x24 (by omega)) (evl_cons (ev_tmp rfl) evl_nil)) ?_
    refine sq_plain rfl rfl rfl (w_move rfl (ev_tmp rfl)) ?_
    refine sq_plain rfl rfl rfl (w_extract rfl (ev_tmp rfl) rfl) ?_
    refine sq_plain rfl rfl rfl (w_extract rfl (ev_tmp rfl) rfl) ?_
    refine sq_alloc rfl rfl rfl rfl Try.zeroValue43 rfl ?_
    intro b4
    refine sq_storeB0 0 rfl rfl rfl (ev_tmp rfl) (ev_tmp rfl) (as_agg _) rfl Try.sizeOf43 rfl ?_
    refine sq_plain rfl rfl rfl (w_assign rfl (ev_tmp rfl)) ?_
    refine sq_nil ?_
    refine awp_seq ?_
    refine awp_seq ?_
    refine awp_region ?_
    refine sq_plain rfl rfl rfl (w_loadA 1 rfl (ev_tmp rfl) rfl Try.isAgg43 Try.sizeOf43 rfl) ?_
    refine sq_plain rfl rfl rfl (w_call rfl Try.call41 rfl (mendDiskS_spec x24 (by omega)) (evl_cons (ev_tmp rfl) evl_nil)) ?_
    refine sq_plain rfl rfl rfl (w_move rfl (ev_tmp rfl)) ?_
    refine sq_plain rfl rfl rfl (w_extract rfl (ev_tmp rfl) rfl) ?_
    refine sq_plain rfl rfl rfl (w_extract rfl (ev_tmp rfl) rfl) ?_
    refine sq_alloc rfl rfl rfl rfl Try.zeroValue43 rfl ?_
    intro b6
    refine sq_storeB0 0 rfl rfl rfl (ev_tmp rfl) (ev_tmp rfl) (as_agg _) rfl Try.sizeOf43 rfl ?_
    refine sq_plain rfl rfl rfl (w_assign rfl (ev_tmp rfl)) ?_
    refine sq_nil ?_
    refine awp_seq ?_
    refine awp_region ?_
    refine sq_plain rfl rfl rfl (w_loadA 1 rfl (ev_tmp rfl) rfl Try.isAgg43 Try.sizeOf43 rfl) ?_
    refine sq_plain rfl rfl rfl (w_loadA 0 rfl (ev_tmp rfl) rfl Try.isAgg43 Try.sizeOf43 rfl) ?_
    refine sq_plain rfl rfl rfl (w_aneq rfl Try.underlying43 (by kernel_rfl) (by kernel_rfl) (ev_tmp rfl) (ev_tmp rfl) (eqf_cons (by kernel_rfl) Try.isAgg9 rfl rfl (eqf_str Try.underlying9) (eqf_cons (by kernel_rfl) Try.isAgg9 rfl rfl (eqf_str Try.underlying9) eqf_nil))) ?_
    refine sq_plain rfl rfl rfl (w_move rfl (ev_tmp rfl)) ?_
    refine sq_grd rfl rfl (guard_f rfl rfl rfl) (fun hc => w_move rfl (ev_tmp rfl)) ?_
    refine sq_grd rfl rfl (guard_f rfl rfl rfl) (fun hc => w_move rfl (ev_tmp rfl)) ?_
    refine sq_grd rfl rfl (guard_f rfl rfl rfl) (fun hc => w_bneq rfl Try.underlying4 (ev_whn rfl hc) (ev_whn rfl hc)) ?_
    refine sq_plain rfl rfl rfl (w_or rfl (ev_tmp rfl) (evif_w rfl)) ?_
    refine sq_nil ?_
    refine awp_cond (ev_tmp rfl) ?_ ?_
    · intro h42
      exfalso; simp at h42
    · intro h42
      refine awp_skip ?_
      refine awp_seq ?_
      refine awp_seq ?_
      refine awp_region ?_
      refine sq_plain rfl rfl rfl (w_move rfl (ev_tmp rfl)) ?_
      refine sq_plain rfl rfl rfl (w_not rfl (ev_tmp rfl)) ?_
      refine sq_plain rfl rfl rfl (w_move rfl (ev_tmp rfl)) ?_
      refine sq_grd rfl rfl (guard_f rfl rfl rfl) (fun hc => w_fldBn 0 rfl Try.underlying43 rfl Try.sizeOf9 (ev_tmp rfl) rfl) ?_
      refine sq_grd rfl rfl (guard_f rfl rfl rfl) (fun hc => w_loadB1 1 rfl (ev_whn rfl hc) rfl Try.isAgg9 rfl) ?_
      refine sq_grd rfl rfl (guard_f rfl rfl rfl) (fun hc => w_slen rfl Try.underlying9 (ev_whn rfl hc)) ?_
      refine sq_grd rfl rfl (guard_f rfl rfl rfl) (fun hc => w_gtr rfl (ev_whn rfl hc) ev_ci) ?_
      refine sq_plain rfl rfl rfl (w_or rfl (ev_tmp rfl) (evif_w rfl)) ?_
      refine sq_nil ?_
      refine awp_cond (ev_tmp rfl) ?_ ?_
      · intro h50
        refine awp_seq ?_
        refine awp_region ?_
        refine sq_plain rfl rfl rfl (w_assign rfl ev_cb) ?_
        refine sq_nil ?_
        refine awp_ret ?_
        exact retR rfl (rv_tmp' rfl (by first | rfl | exact congrArg AV.bool (by simp)))
      · intro h50
        simp only [Bool.or_eq_false_iff, Bool.not_eq_false', decide_eq_false_iff_not] at h50
        obtain ⟨hq1, hq2⟩ := h50
        obtain ⟨hm, he⟩ := mend_ok hq1
        obtain ⟨l, hl⟩ : ∃ l, (framesB x24.Kept).1 = l := ⟨_, rfl⟩
        rw [he, hl] at hq2
        rw [he, hl]
        have hl4 : ((l.map frameB).flatten).length ≤ 40000 := by (dsimp only at hq2; omega)
        have hcnt := sizeF_len l
        unfold sizeF at hcnt
        refine awp_skip ?_
        refine awp_seq ?_
        refine awp_region ?_
        refine sq_plain rfl rfl rfl (w_loadA 2 rfl (ev_tmp rfl) rfl Try.isAgg43 Try.sizeOf43 rfl) ?_
        refine sq_plain rfl rfl rfl (w_call rfl Try.call36 rfl (framesOnS_spec x24 (by omega)) (evl_cons (ev_tmp rfl) evl_nil)) ?_
        refine sq_plain rfl rfl rfl (w_move rfl (ev_tmp rfl)) ?_
        refine sq_plain rfl rfl rfl (w_extract rfl (ev_tmp rfl) rfl) ?_
        refine sq_plain rfl rfl rfl (w_extract rfl (ev_tmp rfl) rfl) ?_
        refine sq_plain rfl rfl rfl (w_extract rfl (ev_tmp rfl) rfl) ?_
        refine sq_plain rfl rfl rfl (w_assign rfl (ev_tmp rfl)) ?_
        refine sq_plain rfl rfl rfl (w_assign rfl (ev_tmp rfl)) ?_
        refine sq_plain rfl rfl rfl (w_assign rfl (ev_tmp rfl)) ?_
        refine sq_nil ?_
        refine awp_seq ?_
        refine awp_region ?_
        refine sq_plain rfl rfl rfl (w_move rfl (ev_tmp rfl)) ?_
        refine sq_callG [] rfl rfl rfl rfl Try.call42 rfl (vText_own code hcode hcl 3 (by decide)) (evl_cons (ev_tmp rfl) (evl_cons ev_ci evl_nil)) rfl ?_
        intro x58 ok58
        have hML := mend_law (s := x58) hm hl ok58 hl4
        rw [hML.before]
        have hsn : ((l ++ [x58]).map frameB).flatten = (l.map frameB).flatten ++ frameB x58 := by simp
        have hfs := frB_len (s := x58) (by omega)
        have hl9 : (((l ++ [x58]).map frameB).flatten).length ≤ 50000 := by (rw [hsn, List.length_append]; omega)
        refine sq_plain rfl rfl rfl (w_assign rfl (ev_tmp rfl)) ?_
        refine sq_nil ?_
        refine awp_seq ?_
        refine awp_region ?_
        refine sq_plain rfl rfl rfl (w_loadA 1 rfl (ev_tmp rfl) rfl Try.isAgg43 Try.sizeOf43 rfl) ?_
        refine sq_plain rfl rfl rfl (w_move rfl (ev_tmp rfl)) ?_
        refine sq_plain rfl rfl rfl (w_call rfl Try.call37 rfl (writeDisk_spec ⟨(l.map frameB).flatten, []⟩ x58 (by simp only [TDisk.size, List.length_nil]; omega) (by omega)) (evl_cons (ev_tmp rfl) (evl_cons (ev_tmp rfl) evl_nil))) ?_
        rw [hML.write]
        refine sq_plain rfl rfl rfl (w_move rfl (ev_tmp rfl)) ?_
        refine sq_plain rfl rfl rfl (w_extract rfl (ev_tmp rfl) rfl) ?_
        refine sq_plain rfl rfl rfl (w_extract rfl (ev_tmp rfl) rfl) ?_
        refine sq_alloc rfl rfl rfl rfl Try.zeroValue43 rfl ?_
        intro b12
        refine sq_storeB0 0 rfl rfl rfl (ev_tmp rfl) (ev_tmp rfl) (as_agg _) rfl Try.sizeOf43 rfl ?_
        refine sq_plain rfl rfl rfl (w_assign rfl (ev_tmp rfl)) ?_
        refine sq_nil ?_
        refine awp_seq ?_
        refine awp_region ?_
        refine sq_plain rfl rfl rfl (w_loadA 0 rfl (ev_tmp rfl) rfl Try.isAgg43 Try.sizeOf43 rfl) ?_
        refine sq_plain rfl rfl rfl (w_call rfl Try.call38 rfl (syncDisk_spec ⟨(l.map frameB).flatten, frameB x58⟩ (by simp only [TDisk.size]; omega)) (evl_cons (ev_tmp rfl) evl_nil)) ?_
        rw [hML.sync]
        refine sq_plain rfl rfl rfl (w_move rfl (ev_tmp rfl)) ?_
        refine sq_plain rfl rfl rfl (w_extract rfl (ev_tmp rfl) rfl) ?_
        refine sq_plain rfl rfl rfl (w_extract rfl (ev_tmp rfl) rfl) ?_
        refine sq_alloc rfl rfl rfl rfl Try.zeroValue43 rfl ?_
        intro b14
        refine sq_storeB0 0 rfl rfl rfl (ev_tmp rfl) (ev_tmp rfl) (as_agg _) rfl Try.sizeOf43 rfl ?_
        refine sq_plain rfl rfl rfl (w_assign rfl (ev_tmp rfl)) ?_
        refine sq_nil ?_
        refine awp_seq ?_
        refine awp_region ?_
        refine sq_plain rfl rfl rfl (w_loadA 0 rfl (ev_tmp rfl) rfl Try.isAgg43 Try.sizeOf43 rfl) ?_
        refine sq_plain rfl rfl rfl (w_call rfl Try.call43 rfl (framesOn_spec ⟨((l ++ [x58]).map frameB).flatten, []⟩ (by simp only [TDisk.size, List.length_nil]; omega)) (evl_cons (ev_tmp rfl) evl_nil)) ?_
        rw [hML.frames]
        refine sq_plain rfl rfl rfl (w_move rfl (ev_tmp rfl)) ?_
        refine sq_plain rfl rfl rfl (w_extract rfl (ev_tmp rfl) rfl) ?_
        refine sq_plain rfl rfl rfl (w_extract rfl (ev_tmp rfl) rfl) ?_
        refine sq_plain rfl rfl rfl (w_extract rfl (ev_tmp rfl) rfl) ?_
        refine sq_plain rfl rfl rfl (w_assign rfl (ev_tmp rfl)) ?_
        refine sq_plain rfl rfl rfl (w_assign rfl (ev_tmp rfl)) ?_
        refine sq_plain rfl rfl rfl (w_assign rfl (ev_tmp rfl)) ?_
        refine sq_nil ?_
        refine awp_seq ?_
        refine awp_region ?_
        refine sq_plain rfl rfl rfl (w_loadA 0 rfl (ev_tmp rfl) rfl Try.isAgg43 Try.sizeOf43 rfl) ?_
        refine sq_plain rfl rfl rfl (w_call rfl Try.call40 rfl (mendDisk_spec ⟨((l ++ [x58]).map frameB).flatten, []⟩ (by simp only [TDisk.size, List.length_nil]; omega)) (evl_cons (ev_tmp rfl) evl_nil)) ?_
        rw [hML.again]
        refine sq_plain rfl rfl rfl (w_move rfl (ev_tmp rfl)) ?_
        refine sq_plain rfl rfl rfl (w_extract rfl (ev_tmp rfl) rfl) ?_
        refine sq_plain rfl rfl rfl (w_extract rfl (ev_tmp rfl) rfl) ?_
        refine sq_alloc rfl rfl rfl rfl Try.zeroValue43 rfl ?_
        intro b19
        refine sq_storeB0 0 rfl rfl rfl (ev_tmp rfl) (ev_tmp rfl) (as_agg _) rfl Try.sizeOf43 rfl ?_
        refine sq_plain rfl rfl rfl (w_assign rfl (ev_tmp rfl)) ?_
        refine sq_nil ?_
        refine awp_seq ?_
        refine awp_region ?_
        refine sq_plain rfl rfl rfl (w_move rfl (ev_tmp rfl)) ?_
        refine sq_plain rfl rfl rfl (w_move rfl (ev_tmp rfl)) ?_
        refine sq_grd rfl rfl (guard_t rfl rfl rfl) (fun hc => w_move rfl (ev_tmp rfl)) ?_
        refine sq_plain rfl rfl rfl (w_and rfl (ev_tmp rfl) (evif_w rfl)) ?_
        refine sq_plain rfl rfl rfl (w_move rfl (ev_tmp rfl)) ?_
        refine sq_grd rfl rfl (guard_t rfl rfl rfl) (fun hc => w_loadA 0 rfl (ev_tmp rfl) rfl Try.isAgg43 Try.sizeOf43 rfl) ?_
        refine sq_grd rfl rfl (guard_t rfl rfl rfl) (fun hc => w_loadA 1 rfl (ev_tmp rfl) rfl Try.isAgg43 Try.sizeOf43 rfl) ?_
        refine sq_grd rfl rfl (guard_t rfl rfl rfl) (fun hc => w_aeql rfl Try.underlying43 (by kernel_rfl) (by kernel_rfl) (ev_whn rfl hc) (ev_whn rfl hc) (eqf_cons (by kernel_rfl) Try.isAgg9 rfl rfl (eqf_str Try.underlying9) (eqf_cons (by kernel_rfl) Try.isAgg9 rfl rfl (eqf_str Try.underlying9) eqf_nil))) ?_
        refine sq_plain rfl rfl rfl (w_and rfl (ev_tmp rfl) (evif_w rfl)) ?_
        refine sq_plain rfl rfl rfl (w_move rfl (ev_tmp rfl)) ?_
        refine sq_grd rfl rfl (guard_t rfl rfl rfl) (fun hc => w_move rfl (ev_tmp rfl)) ?_
        refine sq_grd rfl rfl (guard_t rfl rfl rfl) (fun hc => w_fldBn 0 rfl Try.underlying43 rfl Try.sizeOf9 (ev_tmp rfl) rfl) ?_
        refine sq_grd rfl rfl (guard_t rfl rfl rfl) (fun hc => w_loadB1 1 rfl (ev_whn rfl hc) rfl Try.isAgg9 rfl) ?_
        refine sq_grd rfl rfl (guard_t rfl rfl rfl) (fun hc => w_slen rfl Try.underlying9 (ev_whn rfl hc)) ?_
        refine sq_grd rfl rfl (guard_t rfl rfl rfl) (fun hc => w_eql rfl (ev_whn rfl hc) (ev_whn rfl hc)) ?_
        refine sq_plain rfl rfl rfl (w_and rfl (ev_tmp rfl) (evif_w rfl)) ?_
        refine sq_plain rfl rfl rfl (w_move rfl (ev_tmp rfl)) ?_
        refine sq_gcase rfl rfl (guard_t rfl rfl rfl) (fun gh98 => ?_) (fun hq => absurd hq (by simp at hq))
        refine sq_plain rfl rfl rfl (w_move rfl (ev_tmp rfl)) ?_
        refine sq_gcase rfl rfl (guard_t rfl rfl rfl) (fun gh99 => ?_) (fun hq => absurd hq (by simp at hq))
        refine sq_emptyarr rfl rfl rfl rfl Try.underlying29 Try.sizeOf9 ?_
        intro v99
        refine sq_gcase rfl rfl (guard_t rfl rfl rfl) (fun gh100 => ?_) (fun hq => absurd hq (by simp at hq))
        refine sq_plain rfl rfl rfl (w_move rfl (ev_tmp rfl)) ?_
        refine sq_gcase rfl rfl (guard_t rfl rfl rfl) (fun gh101 => ?_) (fun hq => absurd hq (by simp at hq))
        refine sq_append (by' := 16) 0 rfl rfl rfl rfl Try.underlying29 Try.type9 rfl rfl rfl rfl rfl rfl (ev_tmp rfl) (ev_tmp rfl) rfl (by first | omega | ((try simp only [List.length_map, List.length_take, List.length_cons, List.length_nil, chunks_len, szR] at *); omega) | (have hc2 := hc; simp only [Bool.and_eq_true, Bool.or_eq_true, Bool.or_eq_false_iff, Bool.and_eq_false_iff, Bool.not_eq_true', Bool.not_eq_false', decide_eq_true_eq, decide_eq_false_iff_not, beq_iff_eq, bne_iff_ne, List.length_map, List.length_take] at hc2; omega)) ?_
        intro v101_1
        refine sq_gcase rfl rfl (guard_t rfl rfl rfl) (fun gh102 => ?_) (fun hq => absurd hq (by simp at hq))
        refine sq_plain rfl rfl rfl (w_move rfl (ev_tmp rfl)) ?_
        refine sq_gcase rfl rfl (guard_t rfl rfl rfl) (fun gh103 => ?_) (fun hq => absurd hq (by simp at hq))
        refine sq_plain rfl rfl rfl (w_bslice rfl Try.underlying29 Try.sizeOf9 Try.zeroValue9 rfl rfl rfl rfl (bp_cons (ev_tmp rfl) (as_str _) bp_nil) rfl rfl) ?_
        refine sq_gcase rfl rfl (guard_t rfl rfl rfl) (fun gh104 => ?_) (fun hq => absurd hq (by simp at hq))
        refine sq_append (by' := 16) 0 rfl rfl rfl rfl Try.underlying29 Try.type9 rfl rfl rfl rfl rfl rfl (ev_tmp rfl) (ev_tmp rfl) rfl (by simp only [List.nil_append, List.length_append, List.length_map, chunks_len]; omega) ?_
        intro v104_2
        refine sq_gcase rfl rfl (guard_t rfl rfl rfl) (fun gh105 => ?_) (fun hq => absurd hq (by simp at hq))
        refine sq_plain rfl rfl rfl (w_callB rfl Try.call44 rfl (vTexts_spec (l ++ [x58]) (l ++ [x58])) (flat_bool _) (evlb_cons (evb (ev_tmp rfl)) (evlb_cons (evb_arr 0 (ev_tmp rfl) (by refine Eq.trans ?_ (congrArg (fun z => some (Own.arr v104_2 9 1 z)) (List.map_append (f := fun t : Str => [AV.str t]) (l₁ := l) (l₂ := [x58])).symm); rfl)) evlb_nil))) ?_
        refine sq_plain rfl rfl rfl (w_and rfl (ev_tmp rfl) (evif (ev_tmp rfl))) ?_
        refine sq_plain rfl rfl rfl (w_assign rfl (ev_tmp rfl)) ?_
        refine sq_nil ?_
        refine awp_ret ?_
        exact retR rfl (rv_tmp' rfl (by first | rfl | exact congrArg AV.bool (by simp)))
end
theorem opens_bytes : Opens Try.prog 22 (List Int) (fun l => [bytesI l]) (fun l => ∀ x ∈ l, (Lit.int .u8 x).wf = true) := opens_slice (sz := 1) Try.underlying22 (by kernel_rfl) (opens_int Try.underlying5) (fun _ => rfl)
set_option maxRecDepth 100000 in
theorem fnMend_lifted (os : Os) (started : os.Started) (H : Type) (enc : TypeId × Value → H) :
    ReturnsInHanded {} Try.checked os 5 .any (Rows.fnMendSpec.pre6 enc Try.prog Try.f5 Rows.fnMendRow.domain false) (Rows.fnMendSpec.post enc Try.prog Try.f5 false true false false) := by
  refine returnsInHanded_of_change (C := Try.checked) (by kernel_rfl) started (by kernel_rfl) Try.func5
    (ChangeSpec.witness6 (enc := enc) (C := Try.checked) false ⟨#[], #[.slice none 0 0], []⟩ 8 (by kernel_rfl) (by kernel_rfl) (by kernel_rfl) (by kernel_rfl)) ?_
  intro W base args ds gs before hval0 hW hcnd _
  have hval : ∀ (j : Nat) t v, Try.f5.params[j]? = some t → args[j]? = some v → Value.okWide Try.prog W .any base t v := hval0
  have hW2 := hW
  obtain ⟨p, q, hA0, hV, rfl, hfz, hnd⟩ := hW
  have hA : DataW.TrodAll enc Try.prog W 0 (fun _ => true) true Try.f5.params.toList args.toList ds p := hA0
  rw [Try.params5] at hA hval
  obtain ⟨v0, vs0, d0, ds0, p0, q0, hargs, rfl, rfl, h0, r0⟩ := trodAll_cons hA
  obtain ⟨rfl, rfl, rfl⟩ := trodAll_nil r0
  obtain rfl : args = #[v0] := by cases args; simp_all
  obtain ⟨rfl, rfl⟩ := trodVars_none hV
  have lt0 : ∀ x ∈ p0, x.block < W.heap.size := by obtain ⟨m, hm⟩ := h0; exact DataW.trod_lt m _ _ _ hm
  obtain ⟨a0, w0, g0⟩ := arg_one (opens_bytes) (by obtain ⟨y1, y2, y3, rfl⟩ := okWide_slice Try.underlying22 (hval 0 22 v0 rfl rfl); rfl) h0
  have hcall := law_calls (fnMend_spec a0 w0) (DenV.cons g0 (DenV.nil _))
  clear hA0 hval0
  refine Calls.mono hcall fun e W2 ⟨he, bel⟩ => ?_
  subst he
  exact ⟨_, rfl, _, _, _, [], _, [], hW2, trodAll_mk1 (shut_bool Try.underlying4 _), (trodAll_cons_mk (Below.trod (by kernel_rfl : laidOutB Try.prog = true) (by kernel_rfl) (of_decide_eq_true (by kernel_rfl)) h0 bel lt0) trodAll_mk0), rfl, bel.frame _, fun h => by cases h⟩
theorem fnMend_and {a b : Bool} (h : a = true) (k : b = true) : (a && b) = true := by rw [h, k]; rfl
set_option maxRecDepth 100000 in
theorem fnMend_facts : joinedFacts Try.pinned.checked.prog 5 Try.f5 Rows.fnMendSpec Rows.fnMendRow = true := by
  unfold joinedFacts
  iterate 18 (rw [Bool.and_assoc])
  refine fnMend_and ?_ ?_
  · as_aux_lemma => kernel_rfl
  · as_aux_lemma => kernel_rfl
/-- The statement. -/
theorem fnMend_proved : Rows.FnMendSaid :=
  OpenClaim.holds_of_wide 5 Try.f5 rfl rfl rfl rfl rfl rfl rfl ⟨rfl, rfl, rfl, rfl, rfl⟩ rfl rfl rfl rfl rfl (by kernel_rfl) Try.func5 fnMend_facts
    (of_decide_eq_true (by kernel_rfl)) (by unfold Func.isWrapper; first | (rw [if_pos (by decide +kernel)]; kernel_rfl) | (rw [if_neg (by decide +kernel)]; exact ⟨rfl, rfl⟩))
    (fun os started H enc _ => fnMend_lifted os started H enc)
end Go.Proofs.Yteliahajeokciaa
