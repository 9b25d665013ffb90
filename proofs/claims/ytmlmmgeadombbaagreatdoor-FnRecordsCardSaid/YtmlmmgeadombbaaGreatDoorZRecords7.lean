/- FnRecords: for every drawn record, decoding and parsing invert encoding and formatting, and nothing else is accepted; the program answers what the reference answers. No condition. -/
import Derived.Test.YtmlmmgeadombbaaGreatDoorCards
import Derived.Test.YtmlmmgeadombbaaGreatDoorTie
import Derived.Lay
import Derived.SevenTiedAt
import Derived.Test.YtmlmmgeadombbaaGreatDoorZRecords6

set_option linter.unusedVariables false
set_option linter.unusedSimpArgs false
set_option maxRecDepth 100000
set_option maxHeartbeats 2000000
namespace Go.M
open Go.AV
theorem putS_size (s : Str) : ∀ l : List Str, sizeL (fun x : Str => x.length) (putS l s) ≤ sizeL (fun x : Str => x.length) l + s.length + 1
  | [] => by unfold putS sizeL; simp; omega
  | y :: l => by
    have ih := putS_size s l
    have hc : ∀ (z : Str) (q : List Str), sizeL (fun x : Str => x.length) (z :: q) = sizeL (fun x : Str => x.length) q + z.length + 1 := fun z q => by unfold sizeL; simp; omega
    unfold putS
    split
    · rw [hc s]; omega
    · split
      · omega
      · rw [hc, hc]; omega
theorem recBytesR_len (r : TRec) : (recBytesR r).1.length ≤ 443 := by
  unfold recBytesR
  split
  · rename_i h; exact recB_len (goodR h)
  · exact Nat.zero_le _
theorem recTextR_len (r : TRec) : (recTextR r).1.length ≤ 807 := by
  unfold recTextR
  split
  · rename_i h; exact recT_len (goodR h)
  · exact Nat.zero_le _
end Go.M
namespace Go.Proofs.YtmlmmgeadombbaaGreatDoor
open Go Go.AV Go.M
attribute [local irreducible] OpW OpA OpS AWP FSpec ESpec GSpec OpE RetOk RetOkG RvDen Le Ev GuardIs SrcIs Int.tmod Int.tdiv IntKind.wrap bandI
theorem l1Most_spec (a b : Int) : FSpec Tryz.prog 78 [AV.int a, AV.int b] (AV.int (if b < a then a else b)) := by
  refine spec_of_awp Tryz.func78 rfl Tryz.ntmps78 rfl ?_
  refine awp_seq ?_
  refine awp_region ?_
  refine sq_plain rfl rfl rfl (w_assign rfl ev_ci) ?_
  refine sq_nil ?_
  refine awp_seq ?_
  refine awp_seq ?_
  refine awp_region ?_
  refine sq_plain rfl rfl rfl (w_move rfl (ev_tmp rfl)) ?_
  refine sq_plain rfl rfl rfl (w_move rfl (ev_tmp rfl)) ?_
  refine sq_plain rfl rfl rfl (w_gtr rfl (ev_tmp rfl) (ev_tmp rfl)) ?_
  refine sq_nil ?_
  refine awp_cond (ev_tmp rfl) ?_ ?_
  · intro h7
    have k7 := of_decide_eq_true h7; try simp only [List.length_map] at k7
    rw [if_pos (of_decide_eq_true h7)]
    refine awp_seq ?_
    refine awp_region ?_
    refine sq_plain rfl rfl rfl (w_move rfl (ev_tmp rfl)) ?_
    refine sq_plain rfl rfl rfl (w_assign rfl (ev_tmp rfl)) ?_
    refine sq_nil ?_
    refine awp_ret ?_
    exact retR rfl (rv_tmp' rfl (by rfl))
  · intro h7
    have k7 := of_decide_eq_false h7; try simp only [List.length_map] at k7
    rw [if_neg (of_decide_eq_false h7)]
    refine awp_skip ?_
    refine awp_seq ?_
    refine awp_region ?_
    refine sq_plain rfl rfl rfl (w_move rfl (ev_tmp rfl)) ?_
    refine sq_plain rfl rfl rfl (w_assign rfl (ev_tmp rfl)) ?_
    refine sq_nil ?_
    refine awp_ret ?_
    exact retR rfl (rv_tmp' rfl (by rfl))
theorem curRec_own (b : Nat) (code : List Int) (hcode : ByteL code) (c : TCur) (hp : c.p ≤ 2000000) : GSpec Tryz.prog 76 [AV.ptr b 0] [.box b 61 (curC code c)] (fun x : TCur × TRec × Value × Value => x.1.p ≤ c.p + 100 ∧ x.2.1.size ≤ 1000 ∧ 0 ≤ x.2.1.Lead ∧ x.2.1.Lead ≤ 3) (fun x => .box b 61 (curC code x.1) :: TRec.ow x.2.1 x.2.2) (fun x => AV.agg (TRec.ocs x.2.1 x.2.2)) := by
  refine gspec_of_awp Tryz.func76 rfl Tryz.ntmps76 rfl ?_
  refine awp_seq ?_
  refine awp_region ?_
  refine sq_alloc rfl rfl rfl rfl Tryz.zeroValue37 rfl ?_
  intro b2
  refine sq_nil ?_
  refine awp_seq ?_
  refine awp_region ?_
  refine sq_plain rfl rfl rfl (w_move rfl (ev_tmp rfl)) ?_
  refine sq_callG [1] rfl rfl rfl rfl Tryz.call77 rfl (curPick_own _ _ hcode _ _ (by omega) (by omega)) (evl_cons (ev_tmp rfl) (evl_cons ev_ci evl_nil)) rfl ?_
  intro x6 ok6
  refine sq_plain rfl rfl rfl (w_addi rfl ev_ci (ev_tmp rfl) (by first | omega | ((try simp only [List.length_map, List.length_take, List.length_cons, List.length_nil, chunks_len, szR] at *); omega) | (have hc2 := hc; simp only [Bool.and_eq_true, Bool.or_eq_true, Bool.or_eq_false_iff, Bool.and_eq_false_iff, Bool.not_eq_true', Bool.not_eq_false', decide_eq_true_eq, decide_eq_false_iff_not, beq_iff_eq, bne_iff_ne, List.length_map, List.length_take] at hc2; omega))) ?_
  refine sq_plain rfl rfl rfl (w_move rfl (ev_tmp rfl)) ?_
  refine sq_callG [0] rfl rfl rfl rfl Tryz.call77 rfl (curPick_own _ _ hcode _ _ (by omega) (by omega)) (evl_cons (ev_tmp rfl) (evl_cons ev_ci evl_nil)) rfl ?_
  intro x9 ok9
  refine sq_plain rfl rfl rfl (w_addi rfl ev_ci (ev_tmp rfl) (by first | omega | ((try simp only [List.length_map, List.length_take, List.length_cons, List.length_nil, chunks_len, szR] at *); omega) | (have hc2 := hc; simp only [Bool.and_eq_true, Bool.or_eq_true, Bool.or_eq_false_iff, Bool.and_eq_false_iff, Bool.not_eq_true', Bool.not_eq_false', decide_eq_true_eq, decide_eq_false_iff_not, beq_iff_eq, bne_iff_ne, List.length_map, List.length_take] at hc2; omega))) ?_
  refine sq_plain rfl rfl rfl (w_move rfl (ev_tmp rfl)) ?_
  refine sq_callG [0] rfl rfl rfl rfl Tryz.call77 rfl (curPick_own _ _ hcode _ _ (by omega) (by omega)) (evl_cons (ev_tmp rfl) (evl_cons ev_ci evl_nil)) rfl ?_
  intro x12 ok12
  refine sq_plain rfl rfl rfl (w_addi rfl ev_ci (ev_tmp rfl) (by first | omega | ((try simp only [List.length_map, List.length_take, List.length_cons, List.length_nil, chunks_len, szR] at *); omega) | (have hc2 := hc; simp only [Bool.and_eq_true, Bool.or_eq_true, Bool.or_eq_false_iff, Bool.and_eq_false_iff, Bool.not_eq_true', Bool.not_eq_false', decide_eq_true_eq, decide_eq_false_iff_not, beq_iff_eq, bne_iff_ne, List.length_map, List.length_take] at hc2; omega))) ?_
  refine sq_plain rfl rfl rfl (w_build (places := #[(0, 1), (1, 1), (2, 1), (3, 1), (4, 1), (5, 1), (6, 1)]) rfl Tryz.underlying37 Tryz.zeroValue37 (fun w => by kernel_rfl) rfl (bp_cons (ev_tmp rfl) (as_ik _ _) (bp_cons (ev_tmp rfl) (as_ik _ _) (bp_cons (ev_tmp rfl) (as_ik _ _) bp_nil))) rfl) ?_
  refine sq_alloc rfl rfl rfl rfl Tryz.zeroValue37 rfl ?_
  intro b3
  refine sq_storeB0 0 rfl rfl rfl (ev_tmp rfl) (ev_tmp rfl) (as_agg _) rfl Tryz.sizeOf37 rfl ?_
  refine sq_nil ?_
  refine awp_seq ?_
  refine awp_seq ?_
  refine awp_region ?_
  refine sq_plain rfl rfl rfl (w_fldBn 0 rfl Tryz.underlying37 rfl Tryz.sizeOf3 (ev_tmp rfl) rfl) ?_
  refine sq_plain rfl rfl rfl (w_loadB1 0 rfl (ev_tmp rfl) rfl Tryz.isAgg3 rfl) ?_
  refine sq_nil ?_
  refine awp_block ?_
  refine awp_seq ?_
  refine awp_region ?_
  refine sq_plain rfl rfl rfl (w_eql rfl (ev_tmp rfl) ev_ci) ?_
  refine sq_plain rfl rfl rfl (w_assign rfl (ev_tmp rfl)) ?_
  refine sq_nil ?_
  refine awp_cond (ev_tmp rfl) ?_ ?_
  · intro h24
    have k24 := eq_of_beqt h24; try simp only [List.length_map] at k24
    refine awp_seq ?_
    refine awp_region ?_
    refine sq_plain rfl rfl rfl (w_move rfl (ev_tmp rfl)) ?_
    refine sq_callG [1] rfl rfl rfl rfl Tryz.call77 rfl (curPick_own _ _ hcode _ _ (by omega) (by omega)) (evl_cons (ev_tmp rfl) (evl_cons ev_ci evl_nil)) rfl ?_
    intro x27 ok27
    refine sq_plain rfl rfl rfl (w_fldBn 3 rfl Tryz.underlying37 rfl Tryz.sizeOf3 (ev_tmp rfl) rfl) ?_
    refine sq_storeB1 1 rfl rfl rfl (ev_tmp rfl) (ev_tmp rfl) (as_ik _ _) rfl Tryz.sizeOf3 rfl ?_
    refine sq_nil ?_
    refine awp_seq ?_
    refine awp_seq ?_
    refine awp_region ?_
    refine sq_plain rfl rfl rfl (w_move rfl (ev_tmp rfl)) ?_
    refine sq_callG [0] rfl rfl rfl rfl Tryz.call77 rfl (curPick_own _ _ hcode _ _ (by omega) (by omega)) (evl_cons (ev_tmp rfl) (evl_cons ev_ci evl_nil)) rfl ?_
    intro x30 ok30
    refine sq_plain rfl rfl rfl (w_assign rfl (ev_tmp rfl)) ?_
    refine sq_nil ?_
    refine awp_block ?_
    refine awp_nilown 9 1 ?_
    refine AWP.le (le_pick [2, 1, 0] rfl) ?_
    refine awp_loop_i4 [(0, _), (2, _), (3, _)] _ (fun (n : Int) (cc : TCur) (l : List Str) (v : Value) => (0 ≤ n ∧ n + l.length ≤ 3) ∧ cc.p + 4 * n ≤ c.p + 22 ∧ SrtS l ∧ sizeL (fun x : Str => x.length) l + 70 * n ≤ 210) (fun (n : Int) (cc : TCur) (l : List Str) (v : Value) => [.box b3 37 [AV.int (1 + x6.2), AV.int (1 + x9.2), AV.int (1 + x12.2), AV.int x27.2, AV.is v, AV.nils, AV.bool false], .box b 61 (curC code cc), .arr v 9 1 (l.map fun t => [AV.str t])]) (fun (n : Int) (cc : TCur) (l : List Str) (v : Value) => [(4, AV.int n)]) (fun (n : Int) (cc : TCur) (l : List Str) (v : Value) => n.toNat) (x30.2) (x30.1) ([]) ((Value.slice none 0 0)) ?_ (le_eq (by rfl) ⟨rfl, rfl, rfl, rfl, trivial⟩) ?_
    · exact ⟨⟨by omega, by simp; omega⟩, by omega, List.Pairwise.nil, by simp [sizeL]; omega⟩
    intro n cc l v hinv
    refine awp_seq ?_
    refine awp_seq ?_
    refine awp_region ?_
    refine sq_plain rfl rfl rfl (w_move rfl (ev_tmp rfl)) ?_
    refine sq_plain rfl rfl rfl (w_gtr rfl (ev_tmp rfl) ev_ci) ?_
    refine sq_nil ?_
    refine awp_cond (ev_tmp rfl) ?_ ?_
    · intro h32
      have k32 := of_decide_eq_true h32; try simp only [List.length_map] at k32
      refine awp_skip ?_
      refine awp_seq ?_
      refine awp_block ?_
      refine awp_region_mix _ [(0, false), (1, false), (2, false), (3, true), (4, true)] (by kernel_rfl) (by kernel_rfl) rfl (invx_take 1) ?_
      refine bc_plain rfl rfl rfl (fun ext => w_fldBn 4 rfl Tryz.underlying37 rfl Tryz.sizeOf34 (ev_tmp rfl) rfl) ?_
      refine bc_plain rfl rfl rfl (fun ext => w_loadB1 0 rfl (ev_tmp rfl) rfl Tryz.isAgg34 rfl) ?_
      refine bc_plain rfl rfl rfl (fun ext => w_move rfl (ev_tmp rfl)) ?_
      refine bc_eff rfl rfl rfl (opE_call [1] rfl Tryz.call127 rfl (curKey_own _ _ hcode _ (by omega)) (evl_cons (ev_tmp rfl) evl_nil) rfl) (fun a _ => (by first | exact invx_mk rfl | exact invx_mk (List.append_assoc _ _ _) | exact invx_all)) ?_
      intro x38 ok38
      refine bc_eff rfl rfl rfl (opE_call [1] rfl Tryz.call126 rfl (l4PutS_own v l x38.2 hinv.2.2.1 (by omega)) (evl_cons (ev_tmp rfl) (evl_cons (ev_tmp rfl) evl_nil)) rfl) (fun a _ => (by first | exact invx_mk rfl | exact invx_mk (List.append_assoc _ _ _) | exact invx_all)) ?_
      intro x39 ok39
      refine bc_nil ?_
      refine sq_plain rfl rfl rfl (w_fldBn 4 rfl Tryz.underlying37 rfl Tryz.sizeOf34 (ev_tmp rfl) rfl) ?_
      refine sq_fact 3 rfl fun one_x39 => ?_
      refine sq_storeB1 0 rfl rfl rfl (ev_tmp rfl) (ev_tmp rfl) (as_is one_x39) rfl Tryz.sizeOf34 rfl ?_
      refine sq_nil ?_
      refine awp_region ?_
      refine sq_plain rfl rfl rfl (w_move rfl (ev_tmp rfl)) ?_
      refine sq_plain rfl rfl rfl (w_subi rfl (ev_tmp rfl) ev_ci (by first | omega | ((try simp only [List.length_map, List.length_take, List.length_cons, List.length_nil, chunks_len, szR] at *); omega) | (have hc2 := hc; simp only [Bool.and_eq_true, Bool.or_eq_true, Bool.or_eq_false_iff, Bool.and_eq_false_iff, Bool.not_eq_true', Bool.not_eq_false', decide_eq_true_eq, decide_eq_false_iff_not, beq_iff_eq, bne_iff_ne, List.length_map, List.length_take] at hc2; omega))) ?_
      refine sq_plain rfl rfl rfl (w_assign rfl (ev_tmp rfl)) ?_
      refine sq_nil ?_
      refine round_end4 n cc l v (n - 1) (x38.1) (putS l x38.2) (x39) ?_ ?_ (Le.trans (le_pick [0, 1, 1] rfl) (le_eq (by rfl) ⟨rfl, rfl, rfl, rfl, trivial⟩))
      · (have h9 := putS_len x38.2 l; have h8 := putS_size x38.2 l; exact ⟨⟨by omega, by omega⟩, by omega, (putS_srt hinv.2.2.1).1, by omega⟩)
      · omega
    · intro h32
      have k32 := of_decide_eq_false h32; try simp only [List.length_map] at k32
      refine awp_exit ?_
      refine awp_seq ?_
      refine awp_region ?_
      refine sq_plain rfl rfl rfl (w_move rfl (ev_tmp rfl)) ?_
      refine sq_callG [1] rfl rfl rfl rfl Tryz.call128 rfl (curWrites_own _ _ hcode _ (by omega)) (evl_cons (ev_tmp rfl) evl_nil) rfl ?_
      intro x42 ok42
      refine sq_plain rfl rfl rfl (w_fldBn 5 rfl Tryz.underlying37 rfl Tryz.sizeOf35 (ev_tmp rfl) rfl) ?_
      refine sq_fact 1 rfl fun one_x42_2_2 => ?_
      refine sq_storeB1 2 rfl rfl rfl (ev_tmp rfl) (ev_tmp rfl) (as_is one_x42_2_2) rfl Tryz.sizeOf35 rfl ?_
      refine sq_nil ?_
      refine awp_seq ?_
      refine awp_region ?_
      refine sq_plain rfl rfl rfl (w_fldBn 4 rfl Tryz.underlying37 rfl Tryz.sizeOf34 (ev_tmp rfl) rfl) ?_
      refine sq_plain rfl rfl rfl (w_loadB1 2 rfl (ev_tmp rfl) rfl Tryz.isAgg34 rfl) ?_
      refine sq_plain rfl rfl rfl (w_alen 3 rfl Tryz.underlying34 (ev_tmp rfl) rfl) ?_
      refine sq_plain rfl rfl rfl (w_fldBn 5 rfl Tryz.underlying37 rfl Tryz.sizeOf35 (ev_tmp rfl) rfl) ?_
      refine sq_plain rfl rfl rfl (w_loadB1 2 rfl (ev_tmp rfl) rfl Tryz.isAgg35 rfl) ?_
      refine sq_plain rfl rfl rfl (w_alen 1 rfl Tryz.underlying35 (ev_tmp rfl) rfl) ?_
      refine sq_plain rfl rfl rfl (w_addi rfl (ev_tmp rfl) (ev_tmp rfl) (by simp only [List.length_map]; have h9 := sizeL_len (f := TWrite.size) (l := x42.2.1); omega)) ?_
      refine sq_plain rfl rfl rfl (w_eql rfl (ev_tmp rfl) ev_ci) ?_
      refine sq_nil ?_
      refine awp_cond (ev_tmp rfl) ?_ ?_
      · intro h51
        have k51 := eq_of_beqt h51; try simp only [List.length_map] at k51
        refine awp_region ?_
        refine sq_bsliceO rfl rfl rfl rfl Tryz.underlying34 Tryz.sizeOf9 Tryz.zeroValue9 rfl rfl rfl rfl (bp_cons (ev_cs' (l := [97]) rfl) (as_str _) bp_nil) rfl rfl ?_
        intro v52
        refine sq_plain rfl rfl rfl (w_fldBn 4 rfl Tryz.underlying37 rfl Tryz.sizeOf34 (ev_tmp rfl) rfl) ?_
        refine sq_fact 0 rfl fun one_v52 => ?_
        refine sq_storeB1 3 rfl rfl rfl (ev_tmp rfl) (ev_tmp rfl) (as_is one_v52) rfl Tryz.sizeOf34 rfl ?_
        refine sq_nil ?_
        refine awp_seq ?_
        refine awp_region ?_
        refine sq_plain rfl rfl rfl (w_loadA 3 rfl (ev_tmp rfl) rfl Tryz.isAgg37 Tryz.sizeOf37 rfl) ?_
        refine sq_storeB0 5 rfl rfl rfl (ev_tmp rfl) (ev_tmp rfl) (as_agg _) rfl Tryz.sizeOf37 rfl ?_
        refine sq_nil ?_
        refine awp_ret ?_
        (refine retG [1, 0, 0] ((x42.1, ⟨1 + x6.2, 1 + x9.2, 1 + x12.2, x27.2, [[97]], x42.2.1, false⟩, v52, x42.2.2)) ?_ rfl (by first | (dsimp only; rfl) | rfl) (resR rfl (rv_cell (ys := _) 5 rfl rfl Tryz.isAgg37 Tryz.sizeOf37 rfl)); (dsimp only [TRec.size]; exact ⟨by omega, by first | (simp [sizeL]; done) | (simp only [sizeL, List.length_cons, List.length_nil, List.map_cons, List.map_nil, List.sum_cons, List.sum_nil] at *; omega) | omega, by omega, by omega⟩))
      · intro h51
        have k51 := ne_of_beqf h51; try simp only [List.length_map] at k51
        refine awp_skip ?_
        refine awp_seq ?_
        refine awp_region ?_
        refine sq_plain rfl rfl rfl (w_loadA 2 rfl (ev_tmp rfl) rfl Tryz.isAgg37 Tryz.sizeOf37 rfl) ?_
        refine sq_storeB0 4 rfl rfl rfl (ev_tmp rfl) (ev_tmp rfl) (as_agg _) rfl Tryz.sizeOf37 rfl ?_
        refine sq_nil ?_
        refine awp_ret ?_
        (refine retG [0, 2, 0] ((x42.1, ⟨1 + x6.2, 1 + x9.2, 1 + x12.2, x27.2, l, x42.2.1, false⟩, v, x42.2.2)) ?_ rfl (by first | (dsimp only; rfl) | rfl) (resR rfl (rv_cell (ys := _) 4 rfl rfl Tryz.isAgg37 Tryz.sizeOf37 rfl)); (dsimp only [TRec.size]; exact ⟨by omega, by first | (simp [sizeL]; done) | (simp only [sizeL, List.length_cons, List.length_nil, List.map_cons, List.map_nil, List.sum_cons, List.sum_nil] at *; omega) | omega, by omega, by omega⟩))
  · intro h24
    have k24 := ne_of_beqf h24; try simp only [List.length_map] at k24
    refine awp_seq ?_
    refine awp_region ?_
    refine sq_plain rfl rfl rfl (w_eql rfl (ev_tmp rfl) ev_ci) ?_
    refine sq_plain rfl rfl rfl (w_assign rfl (ev_tmp rfl)) ?_
    refine sq_nil ?_
    refine awp_cond (ev_tmp rfl) ?_ ?_
    · intro h54
      have k54 := eq_of_beqt h54; try simp only [List.length_map] at k54
      refine awp_region ?_
      refine sq_plain rfl rfl rfl (w_fldBn 1 rfl Tryz.underlying37 rfl Tryz.sizeOf3 (ev_tmp rfl) rfl) ?_
      refine sq_storeB1 0 rfl rfl rfl (ev_tmp rfl) ev_ci (as_ik _ _) rfl Tryz.sizeOf3 rfl ?_
      refine sq_nil ?_
      refine awp_seq ?_
      refine awp_region ?_
      refine sq_plain rfl rfl rfl (w_loadA 0 rfl (ev_tmp rfl) rfl Tryz.isAgg37 Tryz.sizeOf37 rfl) ?_
      refine sq_storeB0 2 rfl rfl rfl (ev_tmp rfl) (ev_tmp rfl) (as_agg _) rfl Tryz.sizeOf37 rfl ?_
      refine sq_nil ?_
      refine awp_ret ?_
      refine retG_nil 9 1 ?_
      refine retG_nil 79 3 ?_
      (refine retG [3, 1, 0] ((x12.1, ⟨1 + x6.2, 0, 1 + x12.2, 0, [], [], false⟩, Value.slice none 0 0, Value.slice none 0 0)) ?_ rfl (by first | (dsimp only; rfl) | rfl) (resR rfl (rv_cell (ys := _) 4 rfl rfl Tryz.isAgg37 Tryz.sizeOf37 rfl)); (dsimp only [TRec.size]; exact ⟨by omega, by first | (simp [sizeL]; done) | (simp only [sizeL, List.length_cons, List.length_nil, List.map_cons, List.map_nil, List.sum_cons, List.sum_nil] at *; omega) | omega, by omega, by omega⟩))
    · intro h54
      have k54 := ne_of_beqf h54; try simp only [List.length_map] at k54
      refine awp_seq ?_
      refine awp_region ?_
      refine sq_plain rfl rfl rfl (w_move rfl (ev_tmp rfl)) ?_
      refine sq_callG [1] rfl rfl rfl rfl Tryz.call48 rfl (curOne_own _ _ hcode _ _ (by omega) (by omega)) (evl_cons (ev_tmp rfl) (evl_cons ev_ci evl_nil)) rfl ?_
      intro x18 ok18
      refine sq_plain rfl rfl rfl (w_fldBn 6 rfl Tryz.underlying37 rfl Tryz.sizeOf4 (ev_tmp rfl) rfl) ?_
      refine sq_storeB1 1 rfl rfl rfl (ev_tmp rfl) (ev_tmp rfl) (as_bool _) rfl Tryz.sizeOf4 rfl ?_
      refine sq_nil ?_
      refine awp_seq ?_
      refine awp_region ?_
      refine sq_plain rfl rfl rfl (w_fldBn 6 rfl Tryz.underlying37 rfl Tryz.sizeOf4 (ev_tmp rfl) rfl) ?_
      refine sq_plain rfl rfl rfl (w_loadB1 1 rfl (ev_tmp rfl) rfl Tryz.isAgg4 rfl) ?_
      refine sq_plain rfl rfl rfl (w_not rfl (ev_tmp rfl)) ?_
      refine sq_nil ?_
      refine awp_cond (ev_tmp rfl) ?_ ?_
      · intro h22
        refine awp_region ?_
        refine sq_plain rfl rfl rfl (w_fldBn 2 rfl Tryz.underlying37 rfl Tryz.sizeOf3 (ev_tmp rfl) rfl) ?_
        refine sq_storeB1 1 rfl rfl rfl (ev_tmp rfl) ev_ci (as_ik _ _) rfl Tryz.sizeOf3 rfl ?_
        refine sq_nil ?_
        refine awp_seq ?_
        refine awp_region ?_
        refine sq_plain rfl rfl rfl (w_loadA 1 rfl (ev_tmp rfl) rfl Tryz.isAgg37 Tryz.sizeOf37 rfl) ?_
        refine sq_storeB0 2 rfl rfl rfl (ev_tmp rfl) (ev_tmp rfl) (as_agg _) rfl Tryz.sizeOf37 rfl ?_
        refine sq_nil ?_
        refine awp_ret ?_
        refine retG_nil 9 1 ?_
        refine retG_nil 79 3 ?_
        (refine retG [2, 1, 0] ((x18.1, ⟨1 + x6.2, 1 + x9.2, 0, 0, [], [], x18.2⟩, Value.slice none 0 0, Value.slice none 0 0)) ?_ rfl (by first | (dsimp only; rfl) | rfl) (resR rfl (rv_cell (ys := _) 4 rfl rfl Tryz.isAgg37 Tryz.sizeOf37 rfl)); (dsimp only [TRec.size]; exact ⟨by omega, by first | (simp [sizeL]; done) | (simp only [sizeL, List.length_cons, List.length_nil, List.map_cons, List.map_nil, List.sum_cons, List.sum_nil] at *; omega) | omega, by omega, by omega⟩))
      · intro h22
        refine awp_skip ?_
        refine awp_seq ?_
        refine awp_region ?_
        refine sq_plain rfl rfl rfl (w_loadA 1 rfl (ev_tmp rfl) rfl Tryz.isAgg37 Tryz.sizeOf37 rfl) ?_
        refine sq_storeB0 2 rfl rfl rfl (ev_tmp rfl) (ev_tmp rfl) (as_agg _) rfl Tryz.sizeOf37 rfl ?_
        refine sq_nil ?_
        refine awp_ret ?_
        refine retG_nil 9 1 ?_
        refine retG_nil 79 3 ?_
        (refine retG [2, 1, 0] ((x18.1, ⟨1 + x6.2, 1 + x9.2, 1 + x12.2, 0, [], [], x18.2⟩, Value.slice none 0 0, Value.slice none 0 0)) ?_ rfl (by first | (dsimp only; rfl) | rfl) (resR rfl (rv_cell (ys := _) 4 rfl rfl Tryz.isAgg37 Tryz.sizeOf37 rfl)); (dsimp only [TRec.size]; exact ⟨by omega, by first | (simp [sizeL]; done) | (simp only [sizeL, List.length_cons, List.length_nil, List.map_cons, List.map_nil, List.sum_cons, List.sum_nil] at *; omega) | omega, by omega, by omega⟩))
theorem l4Own_own (r : TRec) (hs : r.size ≤ 1048576) : GSpec Tryz.prog 89 [AV.agg r.cs] [] (fun _ : Value × Value => True) (fun x => TRec.ow r x) (fun x => AV.agg (TRec.ocs r x)) := by
  unfold TRec.size at hs
  have h1 : r.Reads.length ≤ 1048576 := Nat.le_trans sizeL_len (show sizeL (fun x : Str => x.length) r.Reads ≤ 1048576 by omega)
  have h2 : r.Writes.length ≤ 1048576 := Nat.le_trans sizeL_len (show sizeL TWrite.size r.Writes ≤ 1048576 by omega)
  refine gspec_of_awp Tryz.func89 rfl Tryz.ntmps89 rfl ?_
  refine awp_seq ?_
  refine awp_region ?_
  refine sq_box rfl rfl rfl rfl (ev_tmp rfl) ?_
  intro b1
  refine sq_alloc rfl rfl rfl rfl Tryz.zeroValue37 rfl ?_
  intro b2
  refine sq_nil ?_
  refine awp_seq ?_
  refine awp_region ?_
  refine sq_plain rfl rfl rfl (w_fldBn 4 rfl Tryz.underlying37 rfl Tryz.sizeOf34 (ev_tmp rfl) rfl) ?_
  refine sq_plain rfl rfl rfl (w_loadB1 1 rfl (ev_tmp rfl) rfl Tryz.isAgg34 rfl) ?_
  refine sq_callG [] rfl rfl rfl rfl Tryz.call133 rfl (l1OwnS_own r.Reads (by omega)) (evl_cons (ev_tmp rfl) evl_nil) rfl ?_
  intro x5 ok5
  refine sq_plain rfl rfl rfl (w_fldBn 4 rfl Tryz.underlying37 rfl Tryz.sizeOf34 (ev_tmp rfl) rfl) ?_
  refine sq_fact 0 rfl fun one_x5 => ?_
  refine sq_storeB1 2 rfl rfl rfl (ev_tmp rfl) (ev_tmp rfl) (as_is one_x5) rfl Tryz.sizeOf34 rfl ?_
  refine sq_nil ?_
  refine awp_seq ?_
  refine awp_region ?_
  refine sq_emptyarr rfl rfl rfl rfl Tryz.underlying35 Tryz.sizeOf79 ?_
  intro v7
  refine sq_plain rfl rfl rfl (w_fldBn 5 rfl Tryz.underlying37 rfl Tryz.sizeOf35 (ev_tmp rfl) rfl) ?_
  refine sq_plain rfl rfl rfl (w_loadB1 3 rfl (ev_tmp rfl) rfl Tryz.isAgg35 rfl) ?_
  refine sq_append (by' := 40) 0 rfl rfl rfl rfl Tryz.underlying35 Tryz.type79 rfl rfl rfl rfl rfl rfl (ev_tmp rfl) (ev_tmp rfl) rfl (by simp only [List.length_nil, List.length_map]; omega) ?_
  intro v10_1
  refine sq_plain rfl rfl rfl (w_fldBn 5 rfl Tryz.underlying37 rfl Tryz.sizeOf35 (ev_tmp rfl) rfl) ?_
  refine sq_fact 0 rfl fun one_v10_1 => ?_
  refine sq_storeB1 3 rfl rfl rfl (ev_tmp rfl) (ev_tmp rfl) (as_is one_v10_1) rfl Tryz.sizeOf35 rfl ?_
  refine sq_nil ?_
  refine awp_seq ?_
  refine awp_region ?_
  refine sq_plain rfl rfl rfl (w_loadA 3 rfl (ev_tmp rfl) rfl Tryz.isAgg37 Tryz.sizeOf37 rfl) ?_
  refine sq_storeB0 2 rfl rfl rfl (ev_tmp rfl) (ev_tmp rfl) (as_agg _) rfl Tryz.sizeOf37 rfl ?_
  refine sq_nil ?_
  refine awp_ret ?_
  exact retG [1, 0] (x5, v10_1) (trivial) rfl (by rfl) (resR rfl (rv_cell (ys := _) 2 rfl rfl Tryz.isAgg37 Tryz.sizeOf37 rfl))
theorem curAnyRec_own (b : Nat) (code : List Int) (hcode : ByteL code) (c : TCur) (hp : c.p ≤ 1000000) : GSpec Tryz.prog 88 [AV.ptr b 0] [.box b 61 (curC code c)] (fun x : TCur × TRec × Value × Value => x.1.p ≤ c.p + 120 ∧ x.2.1.size ≤ 1002 ∧ 0 ≤ x.2.1.Lead ∧ x.2.1.Lead ≤ 3) (fun x => .box b 61 (curC code x.1) :: TRec.ow x.2.1 x.2.2) (fun x => AV.agg (TRec.ocs x.2.1 x.2.2)) := by
  refine gspec_of_awp Tryz.func88 rfl Tryz.ntmps88 rfl ?_
  refine awp_seq ?_
  refine awp_region ?_
  refine sq_alloc rfl rfl rfl rfl Tryz.zeroValue37 rfl ?_
  intro b2
  refine sq_nil ?_
  refine awp_seq ?_
  refine awp_region ?_
  refine sq_plain rfl rfl rfl (w_move rfl (ev_tmp rfl)) ?_
  refine sq_callG [1] rfl rfl rfl rfl Tryz.call76 rfl (curRec_own _ _ hcode _ (by omega)) (evl_cons (ev_tmp rfl) evl_nil) rfl ?_
  intro x5 ok5
  have hsz := ok5.2.1
  have hld := ok5.2.2
  unfold TRec.size at hsz
  have hrl : x5.2.1.Reads.length ≤ 1000 := Nat.le_trans sizeL_len (show sizeL (fun x : Str => x.length) x5.2.1.Reads ≤ 1000 by omega)
  refine sq_alloc rfl rfl rfl rfl Tryz.zeroValue37 rfl ?_
  intro b3
  refine sq_storeB0 0 rfl rfl rfl (ev_tmp rfl) (ev_tmp rfl) (as_agg _) rfl Tryz.sizeOf37 rfl ?_
  refine sq_nil ?_
  refine awp_seq ?_
  refine awp_seq ?_
  refine awp_region ?_
  refine sq_plain rfl rfl rfl (w_move rfl (ev_tmp rfl)) ?_
  refine sq_callG [1] rfl rfl rfl rfl Tryz.call77 rfl (curPick_own _ _ hcode _ _ (by omega) (by omega)) (evl_cons (ev_tmp rfl) (evl_cons ev_ci evl_nil)) rfl ?_
  intro x7 ok7
  refine sq_nil ?_
  refine awp_block ?_
  refine awp_seq ?_
  refine awp_region ?_
  refine sq_plain rfl rfl rfl (w_eql rfl (ev_tmp rfl) ev_ci) ?_
  refine sq_plain rfl rfl rfl (w_assign rfl (ev_tmp rfl)) ?_
  refine sq_nil ?_
  refine awp_cond (ev_tmp rfl) ?_ ?_
  · intro h8
    have k8 := eq_of_beqt h8; try simp only [List.length_map] at k8
    refine awp_region ?_
    refine sq_plain rfl rfl rfl (w_move rfl (ev_tmp rfl)) ?_
    refine sq_callG [0] rfl rfl rfl rfl Tryz.call77 rfl (curPick_own _ _ hcode _ _ (by omega) (by omega)) (evl_cons (ev_tmp rfl) (evl_cons ev_ci evl_nil)) rfl ?_
    intro x11 ok11
    refine sq_plain rfl rfl rfl (w_fldBn 0 rfl Tryz.underlying37 rfl Tryz.sizeOf3 (ev_tmp rfl) rfl) ?_
    refine sq_storeB1 1 rfl rfl rfl (ev_tmp rfl) (ev_tmp rfl) (as_ik _ _) rfl Tryz.sizeOf3 rfl ?_
    refine sq_nil ?_
    refine awp_seq ?_
    refine awp_region ?_
    refine sq_plain rfl rfl rfl (w_loadA 1 rfl (ev_tmp rfl) rfl Tryz.isAgg37 Tryz.sizeOf37 rfl) ?_
    refine sq_storeB0 4 rfl rfl rfl (ev_tmp rfl) (ev_tmp rfl) (as_agg _) rfl Tryz.sizeOf37 rfl ?_
    refine sq_nil ?_
    refine awp_ret ?_
    (refine retG [0, 1, 1] ((x11.1, ⟨x11.2, x5.2.1.Txn, x5.2.1.Time, x5.2.1.Lead, x5.2.1.Reads, x5.2.1.Writes, x5.2.1.Yes⟩, x5.2.2.1, x5.2.2.2)) ?_ rfl (by first | rfl | (unfold TRec.ow; dsimp only; rw [List.map_append]; rfl)) (resR rfl (rv_cell (ys := _) 4 rfl rfl Tryz.isAgg37 Tryz.sizeOf37 rfl)); (dsimp only [TRec.size]; exact ⟨by omega, by first | omega | (rw [szl_snoc]; simp only [List.length_cons, List.length_nil]; omega), hld⟩))
  · intro h8
    have k8 := ne_of_beqf h8; try simp only [List.length_map] at k8
    refine awp_seq ?_
    refine awp_region ?_
    refine sq_plain rfl rfl rfl (w_eql rfl (ev_tmp rfl) ev_ci) ?_
    refine sq_plain rfl rfl rfl (w_assign rfl (ev_tmp rfl)) ?_
    refine sq_nil ?_
    refine awp_cond (ev_tmp rfl) ?_ ?_
    · intro h13
      have k13 := eq_of_beqt h13; try simp only [List.length_map] at k13
      refine awp_region ?_
      refine sq_plain rfl rfl rfl (w_move rfl (ev_tmp rfl)) ?_
      refine sq_plain rfl rfl rfl (w_bslice rfl Tryz.underlying113 Tryz.sizeOf3 Tryz.zeroValue3 rfl rfl rfl rfl (bp_cons ev_ci (as_ik _ _) (bp_cons ev_ci (as_ik _ _) (bp_cons ev_ci (as_ik _ _) bp_nil))) rfl rfl) ?_
      refine sq_callG [0] rfl rfl rfl rfl Tryz.call132 rfl (curAmong_own _ _ hcode _ ([(0), (60), (61)] : List Int) (by decide) (by omega)) (evl_cons (ev_tmp rfl) (evl_cons (ev_tmp rfl) evl_nil)) rfl ?_
      intro x17 ok17
      refine sq_plain rfl rfl rfl (w_fldBn 1 rfl Tryz.underlying37 rfl Tryz.sizeOf3 (ev_tmp rfl) rfl) ?_
      refine sq_storeB1 1 rfl rfl rfl (ev_tmp rfl) (ev_tmp rfl) (as_ik _ _) rfl Tryz.sizeOf3 rfl ?_
      refine sq_nil ?_
      refine awp_seq ?_
      refine awp_region ?_
      refine sq_plain rfl rfl rfl (w_loadA 1 rfl (ev_tmp rfl) rfl Tryz.isAgg37 Tryz.sizeOf37 rfl) ?_
      refine sq_storeB0 4 rfl rfl rfl (ev_tmp rfl) (ev_tmp rfl) (as_agg _) rfl Tryz.sizeOf37 rfl ?_
      refine sq_nil ?_
      refine awp_ret ?_
      (refine retG [0, 1, 1] ((x17.1, ⟨x5.2.1.Kind, x17.2, x5.2.1.Time, x5.2.1.Lead, x5.2.1.Reads, x5.2.1.Writes, x5.2.1.Yes⟩, x5.2.2.1, x5.2.2.2)) ?_ rfl (by first | rfl | (unfold TRec.ow; dsimp only; rw [List.map_append]; rfl)) (resR rfl (rv_cell (ys := _) 4 rfl rfl Tryz.isAgg37 Tryz.sizeOf37 rfl)); (dsimp only [TRec.size]; exact ⟨by omega, by first | omega | (rw [szl_snoc]; simp only [List.length_cons, List.length_nil]; omega), hld⟩))
    · intro h13
      have k13 := ne_of_beqf h13; try simp only [List.length_map] at k13
      refine awp_seq ?_
      refine awp_region ?_
      refine sq_plain rfl rfl rfl (w_eql rfl (ev_tmp rfl) ev_ci) ?_
      refine sq_plain rfl rfl rfl (w_assign rfl (ev_tmp rfl)) ?_
      refine sq_nil ?_
      refine awp_cond (ev_tmp rfl) ?_ ?_
      · intro h19
        have k19 := eq_of_beqt h19; try simp only [List.length_map] at k19
        refine awp_region ?_
        refine sq_plain rfl rfl rfl (w_move rfl (ev_tmp rfl)) ?_
        refine sq_plain rfl rfl rfl (w_bslice rfl Tryz.underlying113 Tryz.sizeOf3 Tryz.zeroValue3 rfl rfl rfl rfl (bp_cons ev_ci (as_ik _ _) (bp_cons ev_ci (as_ik _ _) (bp_cons ev_ci (as_ik _ _) bp_nil))) rfl rfl) ?_
        refine sq_callG [0] rfl rfl rfl rfl Tryz.call132 rfl (curAmong_own _ _ hcode _ ([(0), (100000), (100001)] : List Int) (by decide) (by omega)) (evl_cons (ev_tmp rfl) (evl_cons (ev_tmp rfl) evl_nil)) rfl ?_
        intro x23 ok23
        refine sq_plain rfl rfl rfl (w_fldBn 2 rfl Tryz.underlying37 rfl Tryz.sizeOf3 (ev_tmp rfl) rfl) ?_
        refine sq_storeB1 1 rfl rfl rfl (ev_tmp rfl) (ev_tmp rfl) (as_ik _ _) rfl Tryz.sizeOf3 rfl ?_
        refine sq_nil ?_
        refine awp_seq ?_
        refine awp_region ?_
        refine sq_plain rfl rfl rfl (w_loadA 1 rfl (ev_tmp rfl) rfl Tryz.isAgg37 Tryz.sizeOf37 rfl) ?_
        refine sq_storeB0 4 rfl rfl rfl (ev_tmp rfl) (ev_tmp rfl) (as_agg _) rfl Tryz.sizeOf37 rfl ?_
        refine sq_nil ?_
        refine awp_ret ?_
        (refine retG [0, 1, 1] ((x23.1, ⟨x5.2.1.Kind, x5.2.1.Txn, x23.2, x5.2.1.Lead, x5.2.1.Reads, x5.2.1.Writes, x5.2.1.Yes⟩, x5.2.2.1, x5.2.2.2)) ?_ rfl (by first | rfl | (unfold TRec.ow; dsimp only; rw [List.map_append]; rfl)) (resR rfl (rv_cell (ys := _) 4 rfl rfl Tryz.isAgg37 Tryz.sizeOf37 rfl)); (dsimp only [TRec.size]; exact ⟨by omega, by first | omega | (rw [szl_snoc]; simp only [List.length_cons, List.length_nil]; omega), hld⟩))
      · intro h19
        have k19 := ne_of_beqf h19; try simp only [List.length_map] at k19
        refine awp_seq ?_
        refine awp_region ?_
        refine sq_plain rfl rfl rfl (w_eql rfl (ev_tmp rfl) ev_ci) ?_
        refine sq_plain rfl rfl rfl (w_assign rfl (ev_tmp rfl)) ?_
        refine sq_nil ?_
        refine awp_cond (ev_tmp rfl) ?_ ?_
        · intro h25
          have k25 := eq_of_beqt h25; try simp only [List.length_map] at k25
          refine awp_region ?_
          refine sq_plain rfl rfl rfl (w_fldBn 4 rfl Tryz.underlying37 rfl Tryz.sizeOf34 (ev_tmp rfl) rfl) ?_
          refine sq_plain rfl rfl rfl (w_loadB1 1 rfl (ev_tmp rfl) rfl Tryz.isAgg34 rfl) ?_
          refine sq_plain rfl rfl rfl (w_bslice rfl Tryz.underlying34 Tryz.sizeOf9 Tryz.zeroValue9 rfl rfl rfl rfl (bp_cons (ev_cs' (l := [97]) rfl) (as_str _) bp_nil) rfl rfl) ?_
          refine sq_append (by' := 16) 2 rfl rfl rfl rfl Tryz.underlying34 Tryz.type9 rfl rfl rfl rfl rfl rfl (ev_tmp rfl) (ev_tmp rfl) rfl (by simp only [List.length_map, chunks_len]; omega) ?_
          intro v30_1
          refine sq_plain rfl rfl rfl (w_fldBn 4 rfl Tryz.underlying37 rfl Tryz.sizeOf34 (ev_tmp rfl) rfl) ?_
          refine sq_fact 2 rfl fun one_v30_1 => ?_
          refine sq_storeB1 1 rfl rfl rfl (ev_tmp rfl) (ev_tmp rfl) (as_is one_v30_1) rfl Tryz.sizeOf34 rfl ?_
          refine sq_nil ?_
          refine awp_seq ?_
          refine awp_region ?_
          refine sq_plain rfl rfl rfl (w_loadA 1 rfl (ev_tmp rfl) rfl Tryz.isAgg37 Tryz.sizeOf37 rfl) ?_
          refine sq_storeB0 4 rfl rfl rfl (ev_tmp rfl) (ev_tmp rfl) (as_agg _) rfl Tryz.sizeOf37 rfl ?_
          refine sq_nil ?_
          refine awp_ret ?_
          (refine retG [0, 1, 1] ((x7.1, ⟨x5.2.1.Kind, x5.2.1.Txn, x5.2.1.Time, x5.2.1.Lead, x5.2.1.Reads ++ [[97]], x5.2.1.Writes, x5.2.1.Yes⟩, v30_1, x5.2.2.2)) ?_ rfl (by first | rfl | (unfold TRec.ow; dsimp only; rw [List.map_append]; rfl)) (resR rfl (rv_cell (ys := _) 4 rfl rfl Tryz.isAgg37 Tryz.sizeOf37 rfl)); (dsimp only [TRec.size]; exact ⟨by omega, by first | omega | (rw [szl_snoc]; simp only [List.length_cons, List.length_nil]; omega), hld⟩))
        · intro h25
          have k25 := ne_of_beqf h25; try simp only [List.length_map] at k25
          refine awp_skip ?_
          refine awp_seq ?_
          refine awp_region ?_
          refine sq_plain rfl rfl rfl (w_loadA 1 rfl (ev_tmp rfl) rfl Tryz.isAgg37 Tryz.sizeOf37 rfl) ?_
          refine sq_storeB0 4 rfl rfl rfl (ev_tmp rfl) (ev_tmp rfl) (as_agg _) rfl Tryz.sizeOf37 rfl ?_
          refine sq_nil ?_
          refine awp_ret ?_
          (refine retG [0, 1, 1] ((x7.1, x5.2.1, x5.2.2.1, x5.2.2.2)) ?_ rfl (by first | rfl | (unfold TRec.ow; dsimp only; rw [List.map_append]; rfl)) (resR rfl (rv_cell (ys := _) 4 rfl rfl Tryz.isAgg37 Tryz.sizeOf37 rfl)); (dsimp only [TRec.size]; exact ⟨by omega, by first | omega | (rw [szl_snoc]; simp only [List.length_cons, List.length_nil]; omega), hld⟩))
theorem drawGoodRec_own (code : List Int) (hcode : ByteL code) : GSpec Tryz.prog 54 [bytesI code] [] (fun x : TRec => x.size ≤ 1002) (fun x => []) (fun x => AV.agg x.cs) := by
  refine gspec_of_awp Tryz.func54 rfl Tryz.ntmps54 rfl ?_
  refine awp_seq ?_
  refine awp_region ?_
  refine sq_alloc rfl rfl rfl rfl Tryz.zeroValue37 rfl ?_
  intro b2
  refine sq_nil ?_
  refine awp_seq ?_
  refine awp_region ?_
  refine sq_plain rfl rfl rfl (w_move rfl (ev_tmp rfl)) ?_
  refine sq_plain rfl rfl rfl (w_build (places := #[(0, 1), (1, 1), (2, 1)]) rfl Tryz.underlying61 Tryz.zeroValue61 (fun w => by kernel_rfl) rfl (bp_cons (ev_tmp rfl) (as_list _ _) bp_nil) rfl) ?_
  refine sq_box rfl rfl rfl rfl (ev_tmp rfl) ?_
  intro b6
  refine sq_plain rfl rfl rfl (w_assign rfl (ev_tmp rfl)) ?_
  refine sq_nil ?_
  refine awp_seq ?_
  refine awp_region ?_
  refine sq_plain rfl rfl rfl (w_move rfl (ev_tmp rfl)) ?_
  refine sq_callG [0] rfl rfl rfl rfl Tryz.call88 rfl (curAnyRec_own _ _ hcode ⟨0, 0⟩ (by decide)) (evl_cons (ev_tmp rfl) evl_nil) rfl ?_
  intro x8 ok8
  refine sq_le (le_sealD [1, 1] 8 rfl rfl (lt_agg (lc_cons lt_refl (lc_cons lt_refl (lc_cons lt_refl (lc_cons lt_refl (lc_cons (lt_arr (List.mem_of_getElem? (i := 0) rfl) le_refl_e) (lc_cons (lt_arr (List.mem_of_getElem? (i := 1) rfl) le_refl_e) (lc_cons lt_refl lc_nil)))))))) gin_nil) ?_
  refine sq_storeB0 1 rfl rfl rfl (ev_tmp rfl) (ev_tmp rfl) (as_agg _) rfl Tryz.sizeOf37 rfl ?_
  refine sq_nil ?_
  refine awp_ret ?_
  (refine retG [] (x8.2.1) ?_ rfl (by first | (dsimp only; rfl) | rfl) (resR rfl (rv_cell (ys := _) 1 rfl rfl Tryz.isAgg37 Tryz.sizeOf37 rfl)); exact ok8.2.1)
theorem drawRecBytes_own (code : List Int) (hcode : ByteL code) : GSpec Tryz.prog 16 [bytesI code] [] (fun x : TRec => x.size ≤ 1002) (fun x => []) (fun x => AV.agg x.cs) := by
  refine gspec_of_awp Tryz.func16 rfl Tryz.ntmps16 rfl ?_
  refine awp_seq ?_
  refine awp_region ?_
  refine sq_alloc rfl rfl rfl rfl Tryz.zeroValue37 rfl ?_
  intro b2
  refine sq_nil ?_
  refine awp_seq ?_
  refine awp_region ?_
  refine sq_plain rfl rfl rfl (w_move rfl (ev_tmp rfl)) ?_
  refine sq_callG [] rfl rfl rfl rfl Tryz.call54 rfl (drawGoodRec_own code hcode) (evl_cons (ev_tmp rfl) evl_nil) rfl ?_
  intro x4 ok4
  refine sq_storeB0 0 rfl rfl rfl (ev_tmp rfl) (ev_tmp rfl) (as_agg _) rfl Tryz.sizeOf37 rfl ?_
  refine sq_nil ?_
  refine awp_ret ?_
  (refine retG [] (x4) ?_ rfl (by first | (dsimp only; rfl) | rfl) (resR rfl (rv_cell (ys := _) 0 rfl rfl Tryz.isAgg37 Tryz.sizeOf37 rfl)); exact ok4)
theorem drawKeysOf_own (code : List Int) (hcode : ByteL code) : GSpec Tryz.prog 32 [bytesI code] [] (fun x : TRec => x.size ≤ 1002) (fun x => []) (fun x => AV.agg x.cs) := by
  refine gspec_of_awp Tryz.func32 rfl Tryz.ntmps32 rfl ?_
  refine awp_seq ?_
  refine awp_region ?_
  refine sq_alloc rfl rfl rfl rfl Tryz.zeroValue37 rfl ?_
  intro b2
  refine sq_nil ?_
  refine awp_seq ?_
  refine awp_region ?_
  refine sq_plain rfl rfl rfl (w_move rfl (ev_tmp rfl)) ?_
  refine sq_callG [] rfl rfl rfl rfl Tryz.call54 rfl (drawGoodRec_own code hcode) (evl_cons (ev_tmp rfl) evl_nil) rfl ?_
  intro x4 ok4
  refine sq_storeB0 0 rfl rfl rfl (ev_tmp rfl) (ev_tmp rfl) (as_agg _) rfl Tryz.sizeOf37 rfl ?_
  refine sq_nil ?_
  refine awp_ret ?_
  (refine retG [] (x4) ?_ rfl (by first | (dsimp only; rfl) | rfl) (resR rfl (rv_cell (ys := _) 0 rfl rfl Tryz.isAgg37 Tryz.sizeOf37 rfl)); exact ok4)
theorem drawSameRec_own (code : List Int) (hcode : ByteL code) : GSpec Tryz.prog 31 [bytesI code] [] (fun x : (TRec × TRec) × Value × Value => True) (fun x => TRec.ow x.1.2 x.2) (fun x => AV.tup [AV.agg x.1.1.cs, AV.agg (TRec.ocs x.1.2 x.2)]) := by
  refine gspec_of_awp Tryz.func31 rfl Tryz.ntmps31 rfl ?_
  refine awp_seq ?_
  refine awp_region ?_
  refine sq_alloc rfl rfl rfl rfl Tryz.zeroValue37 rfl ?_
  intro b2
  refine sq_alloc rfl rfl rfl rfl Tryz.zeroValue37 rfl ?_
  intro b3
  refine sq_nil ?_
  refine awp_seq ?_
  refine awp_region ?_
  refine sq_plain rfl rfl rfl (w_move rfl (ev_tmp rfl)) ?_
  refine sq_plain rfl rfl rfl (w_build (places := #[(0, 1), (1, 1), (2, 1)]) rfl Tryz.underlying61 Tryz.zeroValue61 (fun w => by kernel_rfl) rfl (bp_cons (ev_tmp rfl) (as_list _ _) bp_nil) rfl) ?_
  refine sq_box rfl rfl rfl rfl (ev_tmp rfl) ?_
  intro b9
  refine sq_plain rfl rfl rfl (w_assign rfl (ev_tmp rfl)) ?_
  refine sq_nil ?_
  refine awp_seq ?_
  refine awp_region ?_
  refine sq_plain rfl rfl rfl (w_move rfl (ev_tmp rfl)) ?_
  refine sq_callG [0] rfl rfl rfl rfl Tryz.call88 rfl (curAnyRec_own _ _ hcode ⟨0, 0⟩ (by decide)) (evl_cons (ev_tmp rfl) evl_nil) rfl ?_
  intro x11 ok11
  have hp11 : x11.1.p ≤ 120 := ok11.1
  refine sq_alloc rfl rfl rfl rfl Tryz.zeroValue37 rfl ?_
  intro b5
  refine sq_le (le_sealD [2, 2] 11 rfl rfl (lt_agg (lc_cons lt_refl (lc_cons lt_refl (lc_cons lt_refl (lc_cons lt_refl (lc_cons (lt_arr (List.mem_of_getElem? (i := 0) rfl) le_refl_e) (lc_cons (lt_arr (List.mem_of_getElem? (i := 1) rfl) le_refl_e) (lc_cons lt_refl lc_nil)))))))) gin_nil) ?_
  refine sq_storeB0 0 rfl rfl rfl (ev_tmp rfl) (ev_tmp rfl) (as_agg _) rfl Tryz.sizeOf37 rfl ?_
  refine sq_nil ?_
  refine awp_seq ?_
  refine awp_region ?_
  refine sq_plain rfl rfl rfl (w_loadA 0 rfl (ev_tmp rfl) rfl Tryz.isAgg37 Tryz.sizeOf37 rfl) ?_
  refine sq_callG [] rfl rfl rfl rfl Tryz.call89 rfl (l4Own_own x11.2.1 (by omega)) (evl_cons (ev_tmp rfl) evl_nil) rfl ?_
  intro x13 ok13
  refine sq_alloc rfl rfl rfl rfl Tryz.zeroValue37 rfl ?_
  intro b6
  refine sq_storeB0 0 rfl rfl rfl (ev_tmp rfl) (ev_tmp rfl) (as_agg _) rfl Tryz.sizeOf37 rfl ?_
  refine sq_nil ?_
  refine awp_seq ?_
  refine awp_seq ?_
  refine awp_region ?_
  refine sq_plain rfl rfl rfl (w_move rfl (ev_tmp rfl)) ?_
  refine sq_callG [4] rfl rfl rfl rfl Tryz.call77 rfl (curPick_own _ _ hcode _ _ (by omega) (by omega)) (evl_cons (ev_tmp rfl) (evl_cons ev_ci evl_nil)) rfl ?_
  intro x15 ok15
  refine sq_nil ?_
  refine awp_block ?_
  refine awp_seq ?_
  refine awp_region ?_
  refine sq_plain rfl rfl rfl (w_eql rfl (ev_tmp rfl) ev_ci) ?_
  refine sq_plain rfl rfl rfl (w_assign rfl (ev_tmp rfl)) ?_
  refine sq_nil ?_
  refine awp_cond (ev_tmp rfl) ?_ ?_
  · intro h16
    have k16 := eq_of_beqt h16; try simp only [List.length_map] at k16
    refine awp_region ?_
    refine sq_plain rfl rfl rfl (w_fldBn 6 rfl Tryz.underlying37 rfl Tryz.sizeOf4 (ev_tmp rfl) rfl) ?_
    refine sq_plain rfl rfl rfl (w_loadB1 1 rfl (ev_tmp rfl) rfl Tryz.isAgg4 rfl) ?_
    refine sq_plain rfl rfl rfl (w_not rfl (ev_tmp rfl)) ?_
    refine sq_plain rfl rfl rfl (w_fldBn 6 rfl Tryz.underlying37 rfl Tryz.sizeOf4 (ev_tmp rfl) rfl) ?_
    refine sq_storeB1 1 rfl rfl rfl (ev_tmp rfl) (ev_tmp rfl) (as_bool _) rfl Tryz.sizeOf4 rfl ?_
    refine sq_nil ?_
    refine awp_seq ?_
    refine AWP.le (le_pick [4, 1, 4, 3] rfl) ?_
    refine awp_region_tree _ 3 (.pure 0 (.pure 1 (.e1 2 .nil))) (by kernel_rfl) (by kernel_rfl) rfl (invx_take 2) ?_
    refine bt_plain rfl rfl rfl (fun ext => w_loadA 0 rfl (ev_tmp rfl) rfl Tryz.isAgg37 Tryz.sizeOf37 rfl) ?_
    refine bt_plain rfl rfl rfl (fun ext => w_loadA 1 rfl (ev_tmp rfl) rfl Tryz.isAgg37 Tryz.sizeOf37 rfl) ?_
    refine bt_e1 ?_
    refine eff_s0 rfl rfl rfl (opE_storeB0 2 rfl rfl (ev_tmp rfl) (ev_tmp rfl) (as_agg _) rfl Tryz.sizeOf37 rfl) (fun a _ => (by first | exact invx_mk rfl | exact invx_mk (List.append_assoc _ _ _) | exact invx_all)) ?_
    intro _ _
    refine bt_nil ?_
    refine sq_storeB0 3 rfl rfl rfl (ev_tmp rfl) (ev_tmp rfl) (as_agg _) rfl Tryz.sizeOf37 rfl ?_
    refine sq_nil ?_
    refine awp_ret ?_
    exact retG [5, 5] (((x11.2.1, ⟨x11.2.1.Kind, x11.2.1.Txn, x11.2.1.Time, x11.2.1.Lead, x11.2.1.Reads, x11.2.1.Writes, !x11.2.1.Yes⟩), x13.1, x13.2)) (trivial) rfl (by rfl) (resN rfl (by decide) (rv_cons (rv_cell (ys := _) 2 rfl rfl Tryz.isAgg37 Tryz.sizeOf37 rfl) (rv_cons (rv_cell (ys := _) 3 rfl rfl Tryz.isAgg37 Tryz.sizeOf37 rfl) rv_nil)))
  · intro h16
    have k16 := ne_of_beqf h16; try simp only [List.length_map] at k16
    refine awp_seq ?_
    refine awp_region ?_
    refine sq_plain rfl rfl rfl (w_eql rfl (ev_tmp rfl) ev_ci) ?_
    refine sq_plain rfl rfl rfl (w_assign rfl (ev_tmp rfl)) ?_
    refine sq_nil ?_
    refine awp_cond (ev_tmp rfl) ?_ ?_
    · intro h22
      have k22 := eq_of_beqt h22; try simp only [List.length_map] at k22
      refine awp_region ?_
      refine sq_plain rfl rfl rfl (w_fldBn 3 rfl Tryz.underlying37 rfl Tryz.sizeOf3 (ev_tmp rfl) rfl) ?_
      refine sq_plain rfl rfl rfl (w_loadB1 1 rfl (ev_tmp rfl) rfl Tryz.isAgg3 rfl) ?_
      refine sq_plain rfl rfl rfl (w_addi rfl (ev_tmp rfl) ev_ci (by first | omega | ((try simp only [List.length_map, List.length_take, List.length_cons, List.length_nil, chunks_len, szR] at *); omega) | (have hc2 := hc; simp only [Bool.and_eq_true, Bool.or_eq_true, Bool.or_eq_false_iff, Bool.and_eq_false_iff, Bool.not_eq_true', Bool.not_eq_false', decide_eq_true_eq, decide_eq_false_iff_not, beq_iff_eq, bne_iff_ne, List.length_map, List.length_take] at hc2; omega))) ?_
      refine sq_plain rfl rfl rfl (w_fldBn 3 rfl Tryz.underlying37 rfl Tryz.sizeOf3 (ev_tmp rfl) rfl) ?_
      refine sq_storeB1 1 rfl rfl rfl (ev_tmp rfl) (ev_tmp rfl) (as_ik _ _) rfl Tryz.sizeOf3 rfl ?_
      refine sq_nil ?_
      refine awp_seq ?_
      refine AWP.le (le_pick [4, 1, 4, 3] rfl) ?_
      refine awp_region_tree _ 3 (.pure 0 (.pure 1 (.e1 2 .nil))) (by kernel_rfl) (by kernel_rfl) rfl (invx_take 2) ?_
      refine bt_plain rfl rfl rfl (fun ext => w_loadA 0 rfl (ev_tmp rfl) rfl Tryz.isAgg37 Tryz.sizeOf37 rfl) ?_
      refine bt_plain rfl rfl rfl (fun ext => w_loadA 1 rfl (ev_tmp rfl) rfl Tryz.isAgg37 Tryz.sizeOf37 rfl) ?_
      refine bt_e1 ?_
      refine eff_s0 rfl rfl rfl (opE_storeB0 2 rfl rfl (ev_tmp rfl) (ev_tmp rfl) (as_agg _) rfl Tryz.sizeOf37 rfl) (fun a _ => (by first | exact invx_mk rfl | exact invx_mk (List.append_assoc _ _ _) | exact invx_all)) ?_
      intro _ _
      refine bt_nil ?_
      refine sq_storeB0 3 rfl rfl rfl (ev_tmp rfl) (ev_tmp rfl) (as_agg _) rfl Tryz.sizeOf37 rfl ?_
      refine sq_nil ?_
      refine awp_ret ?_
      exact retG [5, 5] (((x11.2.1, ⟨x11.2.1.Kind, x11.2.1.Txn, x11.2.1.Time, x11.2.1.Lead + 1, x11.2.1.Reads, x11.2.1.Writes, x11.2.1.Yes⟩), x13.1, x13.2)) (trivial) rfl (by rfl) (resN rfl (by decide) (rv_cons (rv_cell (ys := _) 2 rfl rfl Tryz.isAgg37 Tryz.sizeOf37 rfl) (rv_cons (rv_cell (ys := _) 3 rfl rfl Tryz.isAgg37 Tryz.sizeOf37 rfl) rv_nil)))
    · intro h22
      have k22 := ne_of_beqf h22; try simp only [List.length_map] at k22
      refine awp_seq ?_
      refine awp_region ?_
      refine sq_plain rfl rfl rfl (w_eql rfl (ev_tmp rfl) ev_ci) ?_
      refine sq_plain rfl rfl rfl (w_assign rfl (ev_tmp rfl)) ?_
      refine sq_nil ?_
      refine awp_cond (ev_tmp rfl) ?_ ?_
      · intro h28
        have k28 := eq_of_beqt h28; try simp only [List.length_map] at k28
        refine awp_seq ?_
        refine AWP.le (le_pick [4, 5, 4, 0] rfl) ?_
        refine awp_region_mix _ [(0, false), (1, false), (2, true)] (by kernel_rfl) (by kernel_rfl) rfl (invx_take 1) ?_
        refine bc_plain rfl rfl rfl (fun ext => w_loadA 0 rfl (ev_tmp rfl) rfl Tryz.isAgg37 Tryz.sizeOf37 rfl) ?_
        refine bc_plain rfl rfl rfl (fun ext => w_move rfl (ev_tmp rfl)) ?_
        refine bc_eff rfl rfl rfl (opE_call [3] rfl Tryz.call76 rfl (curRec_own _ _ hcode _ (by omega)) (evl_cons (ev_tmp rfl) evl_nil) rfl) (fun a _ => (by first | exact invx_mk rfl | exact invx_mk (List.append_assoc _ _ _) | exact invx_all)) ?_
        intro x32 ok32
        refine bc_nil ?_
        refine sq_storeB0 1 rfl rfl rfl (ev_tmp rfl) (ev_tmp rfl) (as_agg _) rfl Tryz.sizeOf37 rfl ?_
        refine sq_storeB0 2 rfl rfl rfl (ev_tmp rfl) (ev_tmp rfl) (as_agg _) rfl Tryz.sizeOf37 rfl ?_
        refine sq_nil ?_
        refine awp_ret ?_
        exact retG [7, 7] (((x11.2.1, x32.2.1), x32.2.2.1, x32.2.2.2)) (trivial) rfl (by rfl) (resN rfl (by decide) (rv_cons (rv_cell (ys := _) 1 rfl rfl Tryz.isAgg37 Tryz.sizeOf37 rfl) (rv_cons (rv_cell (ys := _) 2 rfl rfl Tryz.isAgg37 Tryz.sizeOf37 rfl) rv_nil)))
      · intro h28
        have k28 := ne_of_beqf h28; try simp only [List.length_map] at k28
        refine awp_skip ?_
        refine awp_seq ?_
        refine AWP.le (le_pick [4, 1, 4, 3] rfl) ?_
        refine awp_region_tree _ 3 (.pure 0 (.pure 1 (.e1 2 .nil))) (by kernel_rfl) (by kernel_rfl) rfl (invx_take 2) ?_
        refine bt_plain rfl rfl rfl (fun ext => w_loadA 0 rfl (ev_tmp rfl) rfl Tryz.isAgg37 Tryz.sizeOf37 rfl) ?_
        refine bt_plain rfl rfl rfl (fun ext => w_loadA 1 rfl (ev_tmp rfl) rfl Tryz.isAgg37 Tryz.sizeOf37 rfl) ?_
        refine bt_e1 ?_
        refine eff_s0 rfl rfl rfl (opE_storeB0 2 rfl rfl (ev_tmp rfl) (ev_tmp rfl) (as_agg _) rfl Tryz.sizeOf37 rfl) (fun a _ => (by first | exact invx_mk rfl | exact invx_mk (List.append_assoc _ _ _) | exact invx_all)) ?_
        intro _ _
        refine bt_nil ?_
        refine sq_storeB0 3 rfl rfl rfl (ev_tmp rfl) (ev_tmp rfl) (as_agg _) rfl Tryz.sizeOf37 rfl ?_
        refine sq_nil ?_
        refine awp_ret ?_
        exact retG [5, 5] (((x11.2.1, x11.2.1), x13.1, x13.2)) (trivial) rfl (by rfl) (resN rfl (by decide) (rv_cons (rv_cell (ys := _) 2 rfl rfl Tryz.isAgg37 Tryz.sizeOf37 rfl) (rv_cons (rv_cell (ys := _) 3 rfl rfl Tryz.isAgg37 Tryz.sizeOf37 rfl) rv_nil)))
theorem drawReadRec_own (code : List Int) (hcode : ByteL code) : GSpec Tryz.prog 27 [bytesI code] [] (fun x : Str => x.length ≤ 500) (fun x => []) (fun x => AV.str x) := by
  refine gspec_of_awp Tryz.func27 rfl Tryz.ntmps27 rfl ?_
  refine awp_seq ?_
  refine awp_region ?_
  refine sq_plain rfl rfl rfl (w_assign rfl (ev_cs' (l := []) rfl)) ?_
  refine sq_nil ?_
  refine awp_seq ?_
  refine awp_region ?_
  refine sq_plain rfl rfl rfl (w_move rfl (ev_tmp rfl)) ?_
  refine sq_plain rfl rfl rfl (w_build (places := #[(0, 1), (1, 1), (2, 1)]) rfl Tryz.underlying61 Tryz.zeroValue61 (fun w => by kernel_rfl) rfl (bp_cons (ev_tmp rfl) (as_list _ _) bp_nil) rfl) ?_
  refine sq_box rfl rfl rfl rfl (ev_tmp rfl) ?_
  intro b9
  refine sq_plain rfl rfl rfl (w_assign rfl (ev_tmp rfl)) ?_
  refine sq_nil ?_
  refine awp_seq ?_
  refine awp_region ?_
  refine sq_plain rfl rfl rfl (w_move rfl (ev_tmp rfl)) ?_
  refine sq_callG [0] rfl rfl rfl rfl Tryz.call76 rfl (curRec_own _ _ hcode ⟨0, 0⟩ (by decide)) (evl_cons (ev_tmp rfl) evl_nil) rfl ?_
  intro x12 ok12
  have hp12 : x12.1.p ≤ 100 := ok12.1
  have hsz : x12.2.1.size ≤ 1048576 := by omega
  have hbl := recBytesR_len x12.2.1
  refine sq_plain rfl rfl rfl (w_callB rfl Tryz.call18 rfl (recBytesS_spec x12.2.1 hsz) (flat_tup (flatl_cons (flat_str _) (flatl_cons (flat_bool _) flatl_nil))) (evlb_cons (evb_lt (ev_tmp rfl) (lt_agg (lc_cons lt_refl (lc_cons lt_refl (lc_cons lt_refl (lc_cons lt_refl (lc_cons (lt_arr (List.mem_of_getElem? (i := 1) rfl) le_refl_e) (lc_cons (lt_arr (List.mem_of_getElem? (i := 2) rfl) le_refl_e) (lc_cons lt_refl lc_nil))))))))) evlb_nil)) ?_
  refine sq_plain rfl rfl rfl (w_move rfl (ev_tmp rfl)) ?_
  refine sq_plain rfl rfl rfl (w_extract rfl (ev_tmp rfl) rfl) ?_
  refine sq_plain rfl rfl rfl (w_extract rfl (ev_tmp rfl) rfl) ?_
  refine sq_plain rfl rfl rfl (w_assign rfl (ev_tmp rfl)) ?_
  refine sq_plain rfl rfl rfl (w_assign rfl (ev_tmp rfl)) ?_
  refine sq_nil ?_
  refine awp_seq ?_
  refine awp_seq ?_
  refine awp_region ?_
  refine sq_plain rfl rfl rfl (w_move rfl (ev_tmp rfl)) ?_
  refine sq_callG [0] rfl rfl rfl rfl Tryz.call77 rfl (curPick_own _ _ hcode _ _ (by omega) (by omega)) (evl_cons (ev_tmp rfl) (evl_cons ev_ci evl_nil)) rfl ?_
  intro x17 ok17
  refine sq_nil ?_
  refine awp_block ?_
  refine awp_seq ?_
  refine awp_region ?_
  refine sq_plain rfl rfl rfl (w_eql rfl (ev_tmp rfl) ev_ci) ?_
  refine sq_plain rfl rfl rfl (w_assign rfl (ev_tmp rfl)) ?_
  refine sq_nil ?_
  refine awp_cond (ev_tmp rfl) ?_ ?_
  · intro h18
    have k18 := eq_of_beqt h18; try simp only [List.length_map] at k18
    refine awp_region ?_
    refine sq_plain rfl rfl rfl (w_move rfl (ev_tmp rfl)) ?_
    refine sq_plain rfl rfl rfl (w_move rfl (ev_tmp rfl)) ?_
    refine sq_callG [0] rfl rfl rfl rfl Tryz.call49 rfl (curSpoilt_own _ _ hcode _ _ _ (by omega) (by decide) (by omega)) (evl_cons (ev_tmp rfl) (evl_cons (ev_tmp rfl) (evl_cons (ev_cs' (l := [0, 1, 97]) rfl) evl_nil))) rfl ?_
    intro x22 ok22
    refine sq_plain rfl rfl rfl (w_assign rfl (ev_tmp rfl)) ?_
    refine sq_nil ?_
    refine awp_seq ?_
    refine awp_region ?_
    refine sq_plain rfl rfl rfl (w_move rfl (ev_tmp rfl)) ?_
    refine sq_plain rfl rfl rfl (w_assign rfl (ev_tmp rfl)) ?_
    refine sq_nil ?_
    refine awp_ret ?_
    (refine retG [] (x22.2) ?_ rfl (by first | (dsimp only; rfl) | rfl) (resR rfl (rv_tmp' rfl (by rfl))); first | omega | (have h9 := ok22.2; omega) | (have h9 := ok33.2; rw [List.length_take] at h9; rw [sealB_len]; omega))
  · intro h18
    have k18 := ne_of_beqf h18; try simp only [List.length_map] at k18
    refine awp_seq ?_
    refine awp_region ?_
    refine sq_plain rfl rfl rfl (w_eql rfl (ev_tmp rfl) ev_ci) ?_
    refine sq_plain rfl rfl rfl (w_assign rfl (ev_tmp rfl)) ?_
    refine sq_nil ?_
    refine awp_cond (ev_tmp rfl) ?_ ?_
    · intro h23
      have k23 := eq_of_beqt h23; try simp only [List.length_map] at k23
      refine awp_seq ?_
      refine awp_region ?_
      refine sq_plain rfl rfl rfl (w_move rfl (ev_tmp rfl)) ?_
      refine sq_plain rfl rfl rfl (w_slen rfl Tryz.underlying9 (ev_tmp rfl)) ?_
      refine sq_plain rfl rfl rfl (w_subi rfl (ev_tmp rfl) ev_ci (by first | omega | ((try simp only [List.length_map, List.length_take, List.length_cons, List.length_nil, chunks_len, szR] at *); omega) | (have hc2 := hc; simp only [Bool.and_eq_true, Bool.or_eq_true, Bool.or_eq_false_iff, Bool.and_eq_false_iff, Bool.not_eq_true', Bool.not_eq_false', decide_eq_true_eq, decide_eq_false_iff_not, beq_iff_eq, bne_iff_ne, List.length_map, List.length_take] at hc2; omega))) ?_
      refine sq_plain rfl rfl rfl (w_call rfl Tryz.call78 rfl (l1Most_spec _ _) (evl_cons ev_ci (evl_cons (ev_tmp rfl) evl_nil))) ?_
      refine sq_plain rfl rfl rfl (w_assign rfl (ev_tmp rfl)) ?_
      refine sq_nil ?_
      refine awp_region ?_
      refine sq_plain rfl rfl rfl (w_move rfl (ev_tmp rfl)) ?_
      refine sq_plain rfl rfl rfl (w_move rfl (ev_tmp rfl)) ?_
      refine sq_plain rfl rfl rfl (w_move rfl (ev_tmp rfl)) ?_
      refine sq_plain rfl rfl rfl (w_ssl_hi rfl Tryz.underlying9 (ev_tmp rfl) (ev_tmp rfl) (by first | omega | ((try simp only [List.length_map, List.length_take, List.length_cons, List.length_nil, chunks_len, szR] at *); omega) | (have hc2 := hc; simp only [Bool.and_eq_true, Bool.or_eq_true, Bool.or_eq_false_iff, Bool.and_eq_false_iff, Bool.not_eq_true', Bool.not_eq_false', decide_eq_true_eq, decide_eq_false_iff_not, beq_iff_eq, bne_iff_ne, List.length_map, List.length_take] at hc2; omega)) (by first | omega | ((try simp only [List.length_map, List.length_take, List.length_cons, List.length_nil, chunks_len, szR] at *); omega) | (have hc2 := hc; simp only [Bool.and_eq_true, Bool.or_eq_true, Bool.or_eq_false_iff, Bool.and_eq_false_iff, Bool.not_eq_true', Bool.not_eq_false', decide_eq_true_eq, decide_eq_false_iff_not, beq_iff_eq, bne_iff_ne, List.length_map, List.length_take] at hc2; omega))) ?_
      refine sq_callG [0] rfl rfl rfl rfl Tryz.call49 rfl (curSpoilt_own _ _ hcode _ _ _ (by rw [List.length_take]; omega) (by decide) (by omega)) (evl_cons (ev_tmp rfl) (evl_cons (ev_tmp rfl) (evl_cons (ev_cs' (l := [0, 1, 2, 97]) rfl) evl_nil))) rfl ?_
      intro x33 ok33
      refine sq_plain rfl rfl rfl (w_call rfl Tryz.call79 rfl (l1Seal_spec x33.2 (by have h9 := ok33.2; rw [List.length_take] at h9; omega)) (evl_cons (ev_tmp rfl) evl_nil)) ?_
      refine sq_plain rfl rfl rfl (w_assign rfl (ev_tmp rfl)) ?_
      refine sq_nil ?_
      refine awp_seq ?_
      refine awp_region ?_
      refine sq_plain rfl rfl rfl (w_move rfl (ev_tmp rfl)) ?_
      refine sq_plain rfl rfl rfl (w_assign rfl (ev_tmp rfl)) ?_
      refine sq_nil ?_
      refine awp_ret ?_
      (refine retG [] (sealB' x33.2) ?_ rfl (by first | (dsimp only; rfl) | rfl) (resR rfl (rv_tmp' rfl (by rfl))); first | omega | (have h9 := ok22.2; omega) | (have h9 := ok33.2; rw [List.length_take] at h9; rw [sealB_len]; omega))
    · intro h23
      have k23 := ne_of_beqf h23; try simp only [List.length_map] at k23
      refine awp_skip ?_
      refine awp_seq ?_
      refine awp_region ?_
      refine sq_plain rfl rfl rfl (w_move rfl (ev_tmp rfl)) ?_
      refine sq_plain rfl rfl rfl (w_assign rfl (ev_tmp rfl)) ?_
      refine sq_nil ?_
      refine awp_ret ?_
      (refine retG [] ((recBytesR x12.2.1).1) ?_ rfl (by first | (dsimp only; rfl) | rfl) (resR rfl (rv_tmp' rfl (by rfl))); first | omega | (have h9 := ok22.2; omega) | (have h9 := ok33.2; rw [List.length_take] at h9; rw [sealB_len]; omega))
theorem drawReadRecText_own (code : List Int) (hcode : ByteL code) : GSpec Tryz.prog 29 [bytesI code] [] (fun x : Str => x.length ≤ 900) (fun x => []) (fun x => AV.str x) := by
  refine gspec_of_awp Tryz.func29 rfl Tryz.ntmps29 rfl ?_
  refine awp_seq ?_
  refine awp_region ?_
  refine sq_plain rfl rfl rfl (w_assign rfl (ev_cs' (l := []) rfl)) ?_
  refine sq_nil ?_
  refine awp_seq ?_
  refine awp_region ?_
  refine sq_plain rfl rfl rfl (w_move rfl (ev_tmp rfl)) ?_
  refine sq_plain rfl rfl rfl (w_build (places := #[(0, 1), (1, 1), (2, 1)]) rfl Tryz.underlying61 Tryz.zeroValue61 (fun w => by kernel_rfl) rfl (bp_cons (ev_tmp rfl) (as_list _ _) bp_nil) rfl) ?_
  refine sq_box rfl rfl rfl rfl (ev_tmp rfl) ?_
  intro b8
  refine sq_plain rfl rfl rfl (w_assign rfl (ev_tmp rfl)) ?_
  refine sq_nil ?_
  refine awp_seq ?_
  refine awp_region ?_
  refine sq_plain rfl rfl rfl (w_move rfl (ev_tmp rfl)) ?_
  refine sq_callG [0] rfl rfl rfl rfl Tryz.call76 rfl (curRec_own _ _ hcode ⟨0, 0⟩ (by decide)) (evl_cons (ev_tmp rfl) evl_nil) rfl ?_
  intro x11 ok11
  have hp11 : x11.1.p ≤ 100 := ok11.1
  have hsz : x11.2.1.size ≤ 1048576 := by omega
  have htl := recTextR_len x11.2.1
  refine sq_plain rfl rfl rfl (w_callB rfl Tryz.call20 rfl (recTextS_spec x11.2.1 hsz) (flat_tup (flatl_cons (flat_str _) (flatl_cons (flat_bool _) flatl_nil))) (evlb_cons (evb_lt (ev_tmp rfl) (lt_agg (lc_cons lt_refl (lc_cons lt_refl (lc_cons lt_refl (lc_cons lt_refl (lc_cons (lt_arr (List.mem_of_getElem? (i := 1) rfl) le_refl_e) (lc_cons (lt_arr (List.mem_of_getElem? (i := 2) rfl) le_refl_e) (lc_cons lt_refl lc_nil))))))))) evlb_nil)) ?_
  refine sq_plain rfl rfl rfl (w_move rfl (ev_tmp rfl)) ?_
  refine sq_plain rfl rfl rfl (w_extract rfl (ev_tmp rfl) rfl) ?_
  refine sq_plain rfl rfl rfl (w_extract rfl (ev_tmp rfl) rfl) ?_
  refine sq_plain rfl rfl rfl (w_assign rfl (ev_tmp rfl)) ?_
  refine sq_plain rfl rfl rfl (w_assign rfl (ev_tmp rfl)) ?_
  refine sq_nil ?_
  refine awp_seq ?_
  refine awp_seq ?_
  refine awp_region ?_
  refine sq_plain rfl rfl rfl (w_move rfl (ev_tmp rfl)) ?_
  refine sq_callG [0] rfl rfl rfl rfl Tryz.call48 rfl (curOne_own _ _ hcode _ _ (by omega) (by omega)) (evl_cons (ev_tmp rfl) (evl_cons ev_ci evl_nil)) rfl ?_
  intro x16 ok16
  refine sq_nil ?_
  refine awp_cond (ev_tmp rfl) ?_ ?_
  · intro h16
    refine awp_region ?_
    refine sq_plain rfl rfl rfl (w_move rfl (ev_tmp rfl)) ?_
    refine sq_plain rfl rfl rfl (w_move rfl (ev_tmp rfl)) ?_
    refine sq_callG [0] rfl rfl rfl rfl Tryz.call49 rfl (curSpoilt_own _ _ hcode _ _ _ (by omega) (by decide) (by omega)) (evl_cons (ev_tmp rfl) (evl_cons (ev_tmp rfl) (evl_cons (ev_cs' (l := [32, 64, 62, 63, 33, 61, 45, 97, 49]) rfl) evl_nil))) rfl ?_
    intro x19 ok19
    refine sq_plain rfl rfl rfl (w_assign rfl (ev_tmp rfl)) ?_
    refine sq_nil ?_
    refine awp_seq ?_
    refine awp_region ?_
    refine sq_plain rfl rfl rfl (w_move rfl (ev_tmp rfl)) ?_
    refine sq_plain rfl rfl rfl (w_assign rfl (ev_tmp rfl)) ?_
    refine sq_nil ?_
    refine awp_ret ?_
    (refine retG [] (x19.2) ?_ rfl (by first | (dsimp only; rfl) | rfl) (resR rfl (rv_tmp' rfl (by rfl))); first | omega | (have h9 := ok19.2; omega))
  · intro h16
    refine awp_skip ?_
    refine awp_seq ?_
    refine awp_region ?_
    refine sq_plain rfl rfl rfl (w_move rfl (ev_tmp rfl)) ?_
    refine sq_plain rfl rfl rfl (w_assign rfl (ev_tmp rfl)) ?_
    refine sq_nil ?_
    refine awp_ret ?_
    (refine retG [] ((recTextR x11.2.1).1) ?_ rfl (by first | (dsimp only; rfl) | rfl) (resR rfl (rv_tmp' rfl (by rfl))); first | omega | (have h9 := ok19.2; omega))
end Go.Proofs.YtmlmmgeadombbaaGreatDoor

set_option linter.unusedVariables false
set_option linter.unusedSimpArgs false
set_option maxRecDepth 100000
namespace Go.Proofs.YtmlmmgeadombbaaGreatDoor
open Go Go.AV Go.M
open Go.ChangeShapes Go.WideShapes Go.ChangeAt Go.RowKit
theorem star : "*" ++ "errors.errorString" = "*errors.errorString" := by decide
theorem errRow (u : TypeId) (h : Tryz.prog.typeName? 3 u = some "*errors.errorString") : u = 181 :=
  typeName_ptr_named (nm := "errors.errorString") (by rw [star]; kernel_rfl) (by kernel_rfl) (by decide) u (by rw [star]; exact h)
theorem readW_of {W : World} (hL : laidMet Tryz.prog Rows.fnRecordsRow.laid W) (hsh : W.ShapedOpen Tryz.prog) : readW W := by
  refine ⟨tabW_head (laidMet.tail (laidMet.tail hL)), ?_, ?_, ?_⟩
  · exact cell_of_shapedOpen_int (t := 3) (k := .i64) (zero := #[.int .i64 0]) hsh (of_decide_eq_true (by kernel_rfl)) (by kernel_rfl) rfl (by kernel_rfl) (by kernel_rfl) Tryz.underlying3
  · have h5 := laidMet.tail (laidMet.tail (laidMet.tail (laidMet.tail (laidMet.tail hL))))
    obtain ⟨a, s, h, _⟩ := laid_sentinel (n := "strconv.ErrSyntax") (g := 1) (ti := 98) h5 (by kernel_rfl) (by kernel_rfl) Tryz.underlying98 errRow Tryz.underlying181 Tryz.underlying183 rfl rfl Tryz.underlying9 (by kernel_rfl) (by kernel_rfl)
    exact ⟨_, _, h⟩
  · have h4 := laidMet.tail (laidMet.tail (laidMet.tail (laidMet.tail hL)))
    obtain ⟨a, s, h, _⟩ := laid_sentinel (n := "strconv.ErrRange") (g := 2) (ti := 98) h4 (by kernel_rfl) (by kernel_rfl) Tryz.underlying98 errRow Tryz.underlying181 Tryz.underlying183 rfl rfl Tryz.underlying9 (by kernel_rfl) (by kernel_rfl)
    exact ⟨_, _, h⟩
end Go.Proofs.YtmlmmgeadombbaaGreatDoor

set_option linter.unusedVariables false
set_option linter.unusedSimpArgs false
set_option maxRecDepth 100000
set_option maxHeartbeats 2000000
namespace Go.M
open Go.AV
theorem recBytesR_ok (r : TRec) : (recBytesR r).2 = goodRec r := by
  unfold recBytesR
  cases h : goodRec r <;> simp
theorem recTextR_ok (r : TRec) : (recTextR r).2 = goodRec r := by
  unfold recTextR
  cases h : goodRec r <;> simp
theorem rec_back {r : TRec} (h : (recBytesR r).2 = true) : readRecR (recBytesR r).1 = (r, true) := by
  rw [recBytesR_ok] at h
  have e : recBytesR r = (recB r, true) := if_pos h
  rw [e]; exact readRecR_of h
theorem txt_back {r : TRec} (h : (recBytesR r).2 = true) (hl : (recTextR r).1.length ≤ 400) : readTxtR (recTextR r).1 = (r, true) := by
  rw [recBytesR_ok] at h
  have e : recTextR r = (recT r, true) := if_pos h
  rw [e] at hl ⊢; exact readTxtR_of h hl
end Go.M
namespace Go.Proofs.YtmlmmgeadombbaaGreatDoor
open Go Go.AV Go.M
open Go.ChangeShapes Go.WideShapes Go.ChangeAt Go.RowKit
section
attribute [local irreducible] OpW OpA OpS AWP FSpec ESpec GSpec OpE RetOk RetOkG RvDen Le Ev GuardIs SrcIs
theorem readRecF_spec (b : Str) (hs : b.length ≤ 1048576) : FSpec Tryz.prog 23 [AV.str b] (AV.tup [AV.agg (readRecR b).1.cs, AV.bool (readRecR b).2]) :=
  fspec_of_gspec (readRec_own b hs) fun x _ => lt_tup (lc_cons (lt_agg (TRec.lc _ x)) (lc_cons lt_refl lc_nil))
theorem readRecSF_spec (b : Str) (hs : b.length ≤ 1048576) : FSpec Tryz.prog 28 [AV.str b] (AV.tup [AV.agg (readRecR b).1.cs, AV.bool (readRecR b).2]) :=
  fspec_of_gspec (readRecS_own b hs) fun x _ => lt_tup (lc_cons (lt_agg (TRec.lc _ x)) (lc_cons lt_refl lc_nil))
theorem readRecTextF_spec (b : Str) (hs : b.length ≤ 1048576) : FSpec Tryz.prog 24 [AV.wt readW (AV.str b)] (AV.tup [AV.agg (readTxtR b).1.cs, AV.bool (readTxtR b).2]) :=
  fspec_of_gspec (readRecText_own b hs) fun x _ => lt_tup (lc_cons (lt_agg (TRec.lc _ x)) (lc_cons lt_refl lc_nil))
theorem readRecTextSF_spec (b : Str) (hs : b.length ≤ 1048576) : FSpec Tryz.prog 30 [AV.str b] (AV.tup [AV.agg (readTxtR b).1.cs, AV.bool (readTxtR b).2]) :=
  fspec_of_gspec (readRecTextS_own b hs) fun x _ => lt_tup (lc_cons (lt_agg (TRec.lc _ x)) (lc_cons lt_refl lc_nil))
theorem keysF_spec (r : TRec) (hs : r.size ≤ 1048576) : FSpec Tryz.prog 33 [AV.agg r.cs] (AV.tup [strs (keysR r).1, AV.bool (keysR r).2]) :=
  fspec_of_gspec (keysR_own r hs) fun v _ => lt_tup (lc_cons (lt_arr (List.mem_singleton.2 rfl) le_refl_e) (lc_cons lt_refl lc_nil))
theorem keysSF_spec (r : TRec) (hs : r.size ≤ 1048576) : FSpec Tryz.prog 34 [AV.agg r.cs] (AV.tup [strs (keysR r).1, AV.bool (keysR r).2]) :=
  fspec_of_gspec (keysS_own r hs) fun v _ => lt_tup (lc_cons (lt_arr (List.mem_singleton.2 rfl) le_refl_e) (lc_cons lt_refl lc_nil))
theorem fnRecords_spec (code : List Int) (hc : ∀ x ∈ code, (Lit.int .u8 x).wf = true) (more : List Int) (hm : ∀ x ∈ more, (Lit.int .u8 x).wf = true) : FSpec Tryz.prog 4 [AV.wt readW (bytesI code), bytesI more] (AV.bool true) := by
  refine spec_of_awp Tryz.func4 rfl Tryz.ntmps4 rfl ?_
  refine AWP.le (le_tab (t := 0) rfl) ?_
  refine awp_seq ?_
  refine awp_region ?_
  refine sq_plain rfl rfl rfl (w_assign rfl ev_cb) ?_
  refine sq_nil ?_
  refine awp_seq ?_
  refine awp_seq ?_
  refine awp_region ?_
  refine sq_plain rfl rfl rfl (w_move rfl (ev_tmp rfl)) ?_
  refine sq_plain rfl rfl rfl (w_move rfl (ev_tmp rfl)) ?_
  refine sq_plain rfl rfl rfl (w_call rfl Tryz.call5 rfl (big_spec _ _) (evl_cons (ev_tmp rfl) (evl_cons (ev_tmp rfl) evl_nil))) ?_
  refine sq_nil ?_
  refine awp_cond (ev_tmp rfl) ?_ ?_
  · intro h37
    refine awp_seq ?_
    refine awp_region ?_
    refine sq_plain rfl rfl rfl (w_assign rfl ev_cb) ?_
    refine sq_nil ?_
    refine awp_ret ?_
    exact retR rfl (rv_tmp' rfl (by first | rfl | exact congrArg AV.bool (by simp)))
  · intro h37
    have hb0 : ByteL code := byteL_of hc
    have hb1 : ByteL more := byteL_of hm
    refine awp_skip ?_
    refine awp_seq ?_
    refine awp_region ?_
    refine sq_plain rfl rfl rfl (w_move rfl (ev_tmp rfl)) ?_
    refine sq_callG [] rfl rfl rfl rfl Tryz.call16 rfl (drawRecBytes_own code hb0) (evl_cons (ev_tmp rfl) evl_nil) rfl ?_
    intro x39 ok39
    obtain ⟨r, hx39⟩ : ∃ z, x39 = z := ⟨_, rfl⟩
    subst hx39
    have hsl : x39.size ≤ 1048576 := Nat.le_trans ok39 (by decide)
    have hbl := recBytesR_len x39
    have htl := recTextR_len x39
    refine sq_alloc rfl rfl rfl rfl Tryz.zeroValue37 rfl ?_
    intro b5
    refine sq_storeB0 0 rfl rfl rfl (ev_tmp rfl) (ev_tmp rfl) (as_agg _) rfl Tryz.sizeOf37 rfl ?_
    refine sq_nil ?_
    refine awp_seq ?_
    refine awp_region ?_
    refine sq_plain rfl rfl rfl (w_loadA 0 rfl (ev_tmp rfl) rfl Tryz.isAgg37 Tryz.sizeOf37 rfl) ?_
    refine sq_plain rfl rfl rfl (w_call rfl Tryz.call17 rfl (recBytesR_spec x39 hsl) (evl_cons (ev_tmp rfl) evl_nil)) ?_
    refine sq_plain rfl rfl rfl (w_move rfl (ev_tmp rfl)) ?_
    refine sq_plain rfl rfl rfl (w_extract rfl (ev_tmp rfl) rfl) ?_
    refine sq_plain rfl rfl rfl (w_extract rfl (ev_tmp rfl) rfl) ?_
    refine sq_plain rfl rfl rfl (w_assign rfl (ev_tmp rfl)) ?_
    refine sq_plain rfl rfl rfl (w_assign rfl (ev_tmp rfl)) ?_
    refine sq_nil ?_
    refine awp_seq ?_
    refine awp_region ?_
    refine sq_plain rfl rfl rfl (w_loadA 0 rfl (ev_tmp rfl) rfl Tryz.isAgg37 Tryz.sizeOf37 rfl) ?_
    refine sq_plain rfl rfl rfl (w_call rfl Tryz.call18 rfl (recBytesS_spec x39 hsl) (evl_cons (ev_tmp rfl) evl_nil)) ?_
    refine sq_plain rfl rfl rfl (w_move rfl (ev_tmp rfl)) ?_
    refine sq_plain rfl rfl rfl (w_extract rfl (ev_tmp rfl) rfl) ?_
    refine sq_plain rfl rfl rfl (w_extract rfl (ev_tmp rfl) rfl) ?_
    refine sq_plain rfl rfl rfl (w_assign rfl (ev_tmp rfl)) ?_
    refine sq_plain rfl rfl rfl (w_assign rfl (ev_tmp rfl)) ?_
    refine sq_nil ?_
    refine awp_seq ?_
    refine awp_region ?_
    refine sq_plain rfl rfl rfl (w_loadA 0 rfl (ev_tmp rfl) rfl Tryz.isAgg37 Tryz.sizeOf37 rfl) ?_
    refine sq_plain rfl rfl rfl (w_callB rfl Tryz.call19 rfl (recTextR_spec x39 hsl) (flat_tup (flatl_cons (flat_str _) (flatl_cons (flat_bool _) flatl_nil))) (evlb_cons (evb_wt 1 rfl (by first | exact fun _ h => h | exact fun _ h => h.1) (evb (ev_tmp rfl))) evlb_nil)) ?_
    refine sq_plain rfl rfl rfl (w_move rfl (ev_tmp rfl)) ?_
    refine sq_plain rfl rfl rfl (w_extract rfl (ev_tmp rfl) rfl) ?_
    refine sq_plain rfl rfl rfl (w_extract rfl (ev_tmp rfl) rfl) ?_
    refine sq_plain rfl rfl rfl (w_assign rfl (ev_tmp rfl)) ?_
    refine sq_plain rfl rfl rfl (w_assign rfl (ev_tmp rfl)) ?_
    refine sq_nil ?_
    refine awp_seq ?_
    refine awp_region ?_
    refine sq_plain rfl rfl rfl (w_loadA 0 rfl (ev_tmp rfl) rfl Tryz.isAgg37 Tryz.sizeOf37 rfl) ?_
    refine sq_plain rfl rfl rfl (w_call rfl Tryz.call20 rfl (recTextS_spec x39 hsl) (evl_cons (ev_tmp rfl) evl_nil)) ?_
    refine sq_plain rfl rfl rfl (w_move rfl (ev_tmp rfl)) ?_
    refine sq_plain rfl rfl rfl (w_extract rfl (ev_tmp rfl) rfl) ?_
    refine sq_plain rfl rfl rfl (w_extract rfl (ev_tmp rfl) rfl) ?_
    refine sq_plain rfl rfl rfl (w_assign rfl (ev_tmp rfl)) ?_
    refine sq_plain rfl rfl rfl (w_assign rfl (ev_tmp rfl)) ?_
    refine sq_nil ?_
    refine awp_seq ?_
    refine awp_seq ?_
    refine awp_region_any (by kernel_rfl) (by kernel_rfl) rfl ?_
    refine ch_plain rfl rfl (w_move rfl (ev_tmp rfl)) ?_
    refine ch_plain rfl rfl (w_move rfl (ev_tmp rfl)) ?_
    refine ch_plain rfl rfl (w_bneq rfl Tryz.underlying4 (ev_tmp rfl) (ev_tmp rfl)) ?_
    refine ch_plain rfl rfl (w_move rfl (ev_tmp rfl)) ?_
    refine ch_grd rfl (guard_f rfl rfl rfl) (fun hc => w_move rfl (ev_tmp rfl)) ?_
    refine ch_grd rfl (guard_f rfl rfl rfl) (fun hc => w_move rfl (ev_tmp rfl)) ?_
    refine ch_grd rfl (guard_f rfl rfl rfl) (fun hc => w_sneq rfl (ev_whn rfl hc) (ev_whn rfl hc)) ?_
    refine ch_plain rfl rfl (w_or rfl (ev_tmp rfl) (evif_w rfl)) ?_
    refine ch_plain rfl rfl (w_move rfl (ev_tmp rfl)) ?_
    refine ch_grd rfl (guard_f rfl rfl rfl) (fun hc => w_move rfl (ev_tmp rfl)) ?_
    refine ch_grd rfl (guard_f rfl rfl rfl) (fun hc => w_move rfl (ev_tmp rfl)) ?_
    refine ch_grd rfl (guard_f rfl rfl rfl) (fun hc => w_bneq rfl Tryz.underlying4 (ev_whn rfl hc) (ev_whn rfl hc)) ?_
    refine ch_plain rfl rfl (w_or rfl (ev_tmp rfl) (evif_w rfl)) ?_
    refine ch_plain rfl rfl (w_move rfl (ev_tmp rfl)) ?_
    refine ch_grd rfl (guard_f rfl rfl rfl) (fun hc => w_move rfl (ev_tmp rfl)) ?_
    refine ch_grd rfl (guard_f rfl rfl rfl) (fun hc => w_move rfl (ev_tmp rfl)) ?_
    refine ch_grd rfl (guard_f rfl rfl rfl) (fun hc => w_sneq rfl (ev_whn rfl hc) (ev_whn rfl hc)) ?_
    refine ch_plain rfl rfl (w_or rfl (ev_tmp rfl) (evif_w rfl)) ?_
    refine ch_plain rfl rfl (w_move rfl (ev_tmp rfl)) ?_
    refine ch_grd rfl (guard_f rfl rfl rfl) (fun hc => w_move rfl (ev_tmp rfl)) ?_
    refine ch_grd rfl (guard_f rfl rfl rfl) (fun hc => w_move rfl (ev_tmp rfl)) ?_
    refine ch_grd rfl (guard_f rfl rfl rfl) (fun hc => w_bneq rfl Tryz.underlying4 (ev_whn rfl hc) (ev_whn rfl hc)) ?_
    refine ch_plain rfl rfl (w_or rfl (ev_tmp rfl) (evif_w rfl)) ?_
    refine ch_plain rfl rfl (w_move rfl (ev_tmp rfl)) ?_
    refine ch_grd rfl (guard_f rfl rfl rfl) (fun hc => w_move rfl (ev_tmp rfl)) ?_
    refine ch_grd rfl (guard_f rfl rfl rfl) (fun hc => w_loadA 0 rfl (ev_tmp rfl) rfl Tryz.isAgg37 Tryz.sizeOf37 rfl) ?_
    refine ch_grd rfl (guard_f rfl rfl rfl) (fun hc => w_call rfl Tryz.call21 rfl (goodRec_spec x39 hsl) (evl_cons (ev_whn rfl hc) evl_nil)) ?_
    refine ch_grd rfl (guard_f rfl rfl rfl) (fun hc => w_bneq rfl Tryz.underlying4 (ev_whn rfl hc) (ev_whn rfl hc)) ?_
    refine ch_plain rfl rfl (w_or rfl (ev_tmp rfl) (evif_w rfl)) ?_
    refine ch_plain rfl rfl (w_move rfl (ev_tmp rfl)) ?_
    refine ch_grd rfl (guard_f rfl rfl rfl) (fun hc => w_loadA 0 rfl (ev_tmp rfl) rfl Tryz.isAgg37 Tryz.sizeOf37 rfl) ?_
    refine ch_grd rfl (guard_f rfl rfl rfl) (fun hc => w_call rfl Tryz.call21 rfl (goodRec_spec x39 hsl) (evl_cons (ev_whn rfl hc) evl_nil)) ?_
    refine ch_grd rfl (guard_f rfl rfl rfl) (fun hc => w_loadA 0 rfl (ev_tmp rfl) rfl Tryz.isAgg37 Tryz.sizeOf37 rfl) ?_
    refine ch_grd rfl (guard_f rfl rfl rfl) (fun hc => w_call rfl Tryz.call22 rfl (l4GoodR_spec x39 hsl) (evl_cons (ev_whn rfl hc) evl_nil)) ?_
    refine ch_grd rfl (guard_f rfl rfl rfl) (fun hc => w_bneq rfl Tryz.underlying4 (ev_whn rfl hc) (ev_whn rfl hc)) ?_
    refine ch_plain rfl rfl (w_or rfl (ev_tmp rfl) (evif_w rfl)) ?_
    refine ch_nil ?_
    refine awp_cond (ev_tmp rfl) ?_ ?_
    · intro h95
      exfalso; simp [recBytesR_ok, recTextR_ok, ← goodRec_eq] at h95
    · intro h95
      refine awp_skip ?_
      refine awp_seq ?_
      refine awp_seq ?_
      refine awp_region ?_
      refine sq_plain rfl rfl rfl (w_move rfl (ev_tmp rfl)) ?_
      refine sq_nil ?_
      refine awp_cond (ev_tmp rfl) ?_ ?_
      · intro h96
        refine awp_seq ?_
        refine awp_region ?_
        refine sq_plain rfl rfl rfl (w_move rfl (ev_tmp rfl)) ?_
        refine sq_plain rfl rfl rfl (w_call rfl Tryz.call23 rfl (readRecF_spec (recBytesR x39).1 (by omega)) (evl_cons (ev_tmp rfl) evl_nil)) ?_
        refine sq_plain rfl rfl rfl (w_move rfl (ev_tmp rfl)) ?_
        refine sq_plain rfl rfl rfl (w_extract rfl (ev_tmp rfl) rfl) ?_
        refine sq_plain rfl rfl rfl (w_extract rfl (ev_tmp rfl) rfl) ?_
        refine sq_alloc rfl rfl rfl rfl Tryz.zeroValue37 rfl ?_
        intro b14
        refine sq_storeB0 0 rfl rfl rfl (ev_tmp rfl) (ev_tmp rfl) (as_agg _) rfl Tryz.sizeOf37 rfl ?_
        refine sq_plain rfl rfl rfl (w_assign rfl (ev_tmp rfl)) ?_
        refine sq_nil ?_
        refine awp_seq ?_
        refine awp_region ?_
        refine sq_plain rfl rfl rfl (w_move rfl (ev_tmp rfl)) ?_
        refine sq_plain rfl rfl rfl (w_callT 2 rfl rfl Tryz.call24 rfl (readRecTextF_spec (recTextR x39).1 (by omega)) (evl_cons (ev_tmp rfl) evl_nil) (by first | exact fun _ h => h | exact fun _ h => h.1)) ?_
        refine sq_plain rfl rfl rfl (w_move rfl (ev_tmp rfl)) ?_
        refine sq_plain rfl rfl rfl (w_extract rfl (ev_tmp rfl) rfl) ?_
        refine sq_plain rfl rfl rfl (w_extract rfl (ev_tmp rfl) rfl) ?_
        refine sq_alloc rfl rfl rfl rfl Tryz.zeroValue37 rfl ?_
        intro b16
        refine sq_storeB0 0 rfl rfl rfl (ev_tmp rfl) (ev_tmp rfl) (as_agg _) rfl Tryz.sizeOf37 rfl ?_
        refine sq_plain rfl rfl rfl (w_assign rfl (ev_tmp rfl)) ?_
        refine sq_nil ?_
        refine awp_seq ?_
        refine awp_region ?_
        refine sq_plain rfl rfl rfl (w_move rfl (ev_tmp rfl)) ?_
        refine sq_plain rfl rfl rfl (w_not rfl (ev_tmp rfl)) ?_
        refine sq_plain rfl rfl rfl (w_move rfl (ev_tmp rfl)) ?_
        refine sq_grd rfl rfl (guard_f rfl rfl rfl) (fun hc => w_loadA 1 rfl (ev_tmp rfl) rfl Tryz.isAgg37 Tryz.sizeOf37 rfl) ?_
        refine sq_grd rfl rfl (guard_f rfl rfl rfl) (fun hc => w_loadA 2 rfl (ev_tmp rfl) rfl Tryz.isAgg37 Tryz.sizeOf37 rfl) ?_
        refine sq_grd rfl rfl (guard_f rfl rfl rfl) (fun hc => w_call rfl Tryz.call25 rfl (sameRecS_spec _ _) (evl_cons (ev_whn rfl hc) (evl_cons (ev_whn rfl hc) evl_nil))) ?_
        refine sq_grd rfl rfl (guard_f rfl rfl rfl) (fun hc => w_not rfl (ev_whn rfl hc)) ?_
        refine sq_plain rfl rfl rfl (w_or rfl (ev_tmp rfl) (evif_w rfl)) ?_
        refine sq_plain rfl rfl rfl (w_move rfl (ev_tmp rfl)) ?_
        refine sq_grd rfl rfl (guard_f rfl rfl rfl) (fun hc => w_move rfl (ev_tmp rfl)) ?_
        refine sq_grd rfl rfl (guard_f rfl rfl rfl) (fun hc => w_slen rfl Tryz.underlying9 (ev_whn rfl hc)) ?_
        refine sq_grd rfl rfl (guard_f rfl rfl rfl) (fun hc => w_leq rfl (ev_whn rfl hc) ev_ci) ?_
        refine sq_grd rfl rfl (guard_f rfl rfl rfl) (fun hc => w_move rfl (ev_whn rfl hc)) ?_
        refine sq_grd rfl rfl (guard_wt rfl rfl rfl) (fun hc => w_move rfl (ev_tmp rfl)) ?_
        refine sq_grd rfl rfl (guard_wt rfl rfl rfl) (fun hc => w_not rfl (ev_whn rfl hc)) ?_
        refine sq_grd rfl rfl (guard_wt rfl rfl rfl) (fun hc => w_move rfl (ev_whn rfl hc)) ?_
        refine sq_grd rfl rfl (guard_wf rfl rfl rfl) (fun hc => w_loadA 0 rfl (ev_tmp rfl) rfl Tryz.isAgg37 Tryz.sizeOf37 rfl) ?_
        refine sq_grd rfl rfl (guard_wf rfl rfl rfl) (fun hc => w_loadA 2 rfl (ev_tmp rfl) rfl Tryz.isAgg37 Tryz.sizeOf37 rfl) ?_
        refine sq_grd rfl rfl (guard_wf rfl rfl rfl) (fun hc => w_call rfl Tryz.call25 rfl (sameRecS_spec _ _) (evl_cons (ev_whn rfl hc) (evl_cons (ev_whn rfl hc) evl_nil))) ?_
        refine sq_grd rfl rfl (guard_wf rfl rfl rfl) (fun hc => w_not rfl (ev_whn rfl hc)) ?_
        refine sq_grd rfl rfl (guard_wt rfl rfl rfl) (fun hc => w_or rfl (ev_whn rfl hc) (evif_w2 rfl hc)) ?_
        refine sq_grd rfl rfl (guard_f rfl rfl rfl) (fun hc => w_and rfl (ev_whn rfl hc) (evif_w2 rfl hc)) ?_
        refine sq_plain rfl rfl rfl (w_or rfl (ev_tmp rfl) (evif_w rfl)) ?_
        refine sq_plain rfl rfl rfl (w_move rfl (ev_tmp rfl)) ?_
        refine sq_grd rfl rfl (guard_f rfl rfl rfl) (fun hc => w_loadA 2 rfl (ev_tmp rfl) rfl Tryz.isAgg37 Tryz.sizeOf37 rfl) ?_
        refine sq_grd rfl rfl (guard_f rfl rfl rfl) (fun hc => w_loadA 2 rfl (ev_tmp rfl) rfl Tryz.isAgg37 Tryz.sizeOf37 rfl) ?_
        refine sq_grd rfl rfl (guard_f rfl rfl rfl) (fun hc => w_call rfl Tryz.call26 rfl (sameRec_spec _ _) (evl_cons (ev_whn rfl hc) (evl_cons (ev_whn rfl hc) evl_nil))) ?_
        refine sq_grd rfl rfl (guard_f rfl rfl rfl) (fun hc => w_not rfl (ev_whn rfl hc)) ?_
        refine sq_plain rfl rfl rfl (w_or rfl (ev_tmp rfl) (evif_w rfl)) ?_
        refine sq_nil ?_
        refine awp_cond (ev_tmp rfl) ?_ ?_
        · intro h135
          exfalso; rw [rec_back h96] at h135; by_cases hl : (recTextR x39).1.length ≤ 400; (rw [txt_back h96 hl] at h135; simp at h135); (have hl2 : decide (((recTextR x39).1.length : Int) ≤ 400) = false := decide_eq_false (by omega); rw [hl2] at h135; simp at h135)
        · intro h135
          refine awp_skip ?_
          refine awp_seq ?_
          refine awp_region ?_
          refine sq_plain rfl rfl rfl (w_move rfl (ev_tmp rfl)) ?_
          refine sq_callG [] rfl rfl rfl rfl Tryz.call27 rfl (drawReadRec_own more hb1) (evl_cons (ev_tmp rfl) evl_nil) rfl ?_
          intro x137 ok137
          have hx137 : x137.length ≤ 500 := ok137
          refine sq_plain rfl rfl rfl (w_assign rfl (ev_tmp rfl)) ?_
          refine sq_nil ?_
          refine awp_seq ?_
          refine awp_region ?_
          refine sq_plain rfl rfl rfl (w_move rfl (ev_tmp rfl)) ?_
          refine sq_plain rfl rfl rfl (w_call rfl Tryz.call23 rfl (readRecF_spec x137 (by omega)) (evl_cons (ev_tmp rfl) evl_nil)) ?_
          refine sq_plain rfl rfl rfl (w_move rfl (ev_tmp rfl)) ?_
          refine sq_plain rfl rfl rfl (w_extract rfl (ev_tmp rfl) rfl) ?_
          refine sq_plain rfl rfl rfl (w_extract rfl (ev_tmp rfl) rfl) ?_
          refine sq_alloc rfl rfl rfl rfl Tryz.zeroValue37 rfl ?_
          intro b19
          refine sq_storeB0 0 rfl rfl rfl (ev_tmp rfl) (ev_tmp rfl) (as_agg _) rfl Tryz.sizeOf37 rfl ?_
          refine sq_plain rfl rfl rfl (w_assign rfl (ev_tmp rfl)) ?_
          refine sq_nil ?_
          refine awp_seq ?_
          refine awp_region ?_
          refine sq_plain rfl rfl rfl (w_move rfl (ev_tmp rfl)) ?_
          refine sq_plain rfl rfl rfl (w_call rfl Tryz.call28 rfl (readRecSF_spec x137 (by omega)) (evl_cons (ev_tmp rfl) evl_nil)) ?_
          refine sq_plain rfl rfl rfl (w_move rfl (ev_tmp rfl)) ?_
          refine sq_plain rfl rfl rfl (w_extract rfl (ev_tmp rfl) rfl) ?_
          refine sq_plain rfl rfl rfl (w_extract rfl (ev_tmp rfl) rfl) ?_
          refine sq_alloc rfl rfl rfl rfl Tryz.zeroValue37 rfl ?_
          intro b21
          refine sq_storeB0 0 rfl rfl rfl (ev_tmp rfl) (ev_tmp rfl) (as_agg _) rfl Tryz.sizeOf37 rfl ?_
          refine sq_plain rfl rfl rfl (w_assign rfl (ev_tmp rfl)) ?_
          refine sq_nil ?_
          refine awp_seq ?_
          refine awp_region ?_
          refine sq_plain rfl rfl rfl (w_move rfl (ev_tmp rfl)) ?_
          refine sq_callG [] rfl rfl rfl rfl Tryz.call29 rfl (drawReadRecText_own more hb1) (evl_cons (ev_tmp rfl) evl_nil) rfl ?_
          intro x149 ok149
          have hx149 : x149.length ≤ 900 := ok149
          refine sq_plain rfl rfl rfl (w_assign rfl (ev_tmp rfl)) ?_
          refine sq_nil ?_
          refine awp_seq ?_
          refine awp_region ?_
          refine sq_plain rfl rfl rfl (w_move rfl (ev_tmp rfl)) ?_
          refine sq_plain rfl rfl rfl (w_callT 5 rfl rfl Tryz.call24 rfl (readRecTextF_spec x149 (by omega)) (evl_cons (ev_tmp rfl) evl_nil) (by first | exact fun _ h => h | exact fun _ h => h.1)) ?_
          refine sq_plain rfl rfl rfl (w_move rfl (ev_tmp rfl)) ?_
          refine sq_plain rfl rfl rfl (w_extract rfl (ev_tmp rfl) rfl) ?_
          refine sq_plain rfl rfl rfl (w_extract rfl (ev_tmp rfl) rfl) ?_
          refine sq_alloc rfl rfl rfl rfl Tryz.zeroValue37 rfl ?_
          intro b24
          refine sq_storeB0 0 rfl rfl rfl (ev_tmp rfl) (ev_tmp rfl) (as_agg _) rfl Tryz.sizeOf37 rfl ?_
          refine sq_plain rfl rfl rfl (w_assign rfl (ev_tmp rfl)) ?_
          refine sq_nil ?_
          refine awp_seq ?_
          refine awp_region ?_
          refine sq_plain rfl rfl rfl (w_move rfl (ev_tmp rfl)) ?_
          refine sq_plain rfl rfl rfl (w_call rfl Tryz.call30 rfl (readRecTextSF_spec x149 (by omega)) (evl_cons (ev_tmp rfl) evl_nil)) ?_
          refine sq_plain rfl rfl rfl (w_move rfl (ev_tmp rfl)) ?_
          refine sq_plain rfl rfl rfl (w_extract rfl (ev_tmp rfl) rfl) ?_
          refine sq_plain rfl rfl rfl (w_extract rfl (ev_tmp rfl) rfl) ?_
          refine sq_alloc rfl rfl rfl rfl Tryz.zeroValue37 rfl ?_
          intro b26
          refine sq_storeB0 0 rfl rfl rfl (ev_tmp rfl) (ev_tmp rfl) (as_agg _) rfl Tryz.sizeOf37 rfl ?_
          refine sq_plain rfl rfl rfl (w_assign rfl (ev_tmp rfl)) ?_
          refine sq_nil ?_
          refine awp_seq ?_
          refine awp_region ?_
          refine sq_plain rfl rfl rfl (w_move rfl (ev_tmp rfl)) ?_
          refine sq_callG [] rfl rfl rfl rfl Tryz.call31 rfl (drawSameRec_own more hb1) (evl_cons (ev_tmp rfl) evl_nil) rfl ?_
          intro x162 ok162
          refine sq_plain rfl rfl rfl (w_move rfl (ev_tmp rfl)) ?_
          refine sq_plain rfl rfl rfl (w_extract rfl (ev_tmp rfl) rfl) ?_
          refine sq_plain rfl rfl rfl (w_extract rfl (ev_tmp rfl) rfl) ?_
          refine sq_alloc rfl rfl rfl rfl Tryz.zeroValue37 rfl ?_
          intro b28
          refine sq_alloc rfl rfl rfl rfl Tryz.zeroValue37 rfl ?_
          intro b29
          refine sq_storeB0 1 rfl rfl rfl (ev_tmp rfl) (ev_tmp rfl) (as_agg _) rfl Tryz.sizeOf37 rfl ?_
          refine sq_storeB0 0 rfl rfl rfl (ev_tmp rfl) (ev_tmp rfl) (as_agg _) rfl Tryz.sizeOf37 rfl ?_
          refine sq_nil ?_
          refine awp_seq ?_
          refine awp_region ?_
          refine sq_plain rfl rfl rfl (w_move rfl (ev_tmp rfl)) ?_
          refine sq_callG [] rfl rfl rfl rfl Tryz.call32 rfl (drawKeysOf_own more hb1) (evl_cons (ev_tmp rfl) evl_nil) rfl ?_
          intro x166 ok166
          have hsk : x166.size ≤ 1048576 := Nat.le_trans ok166 (by decide)
          refine sq_alloc rfl rfl rfl rfl Tryz.zeroValue37 rfl ?_
          intro b30
          refine sq_storeB0 0 rfl rfl rfl (ev_tmp rfl) (ev_tmp rfl) (as_agg _) rfl Tryz.sizeOf37 rfl ?_
          refine sq_nil ?_
          refine awp_seq ?_
          refine awp_region ?_
          refine sq_plain rfl rfl rfl (w_loadA 0 rfl (ev_tmp rfl) rfl Tryz.isAgg37 Tryz.sizeOf37 rfl) ?_
          refine sq_plain rfl rfl rfl (w_call rfl Tryz.call33 rfl (keysF_spec x166 hsk) (evl_cons (ev_tmp rfl) evl_nil)) ?_
          refine sq_plain rfl rfl rfl (w_move rfl (ev_tmp rfl)) ?_
          refine sq_plain rfl rfl rfl (w_extract rfl (ev_tmp rfl) rfl) ?_
          refine sq_plain rfl rfl rfl (w_extract rfl (ev_tmp rfl) rfl) ?_
          refine sq_plain rfl rfl rfl (w_assign rfl (ev_tmp rfl)) ?_
          refine sq_plain rfl rfl rfl (w_assign rfl (ev_tmp rfl)) ?_
          refine sq_nil ?_
          refine awp_seq ?_
          refine awp_region ?_
          refine sq_plain rfl rfl rfl (w_loadA 0 rfl (ev_tmp rfl) rfl Tryz.isAgg37 Tryz.sizeOf37 rfl) ?_
          refine sq_plain rfl rfl rfl (w_call rfl Tryz.call34 rfl (keysSF_spec x166 hsk) (evl_cons (ev_tmp rfl) evl_nil)) ?_
          refine sq_plain rfl rfl rfl (w_move rfl (ev_tmp rfl)) ?_
          refine sq_plain rfl rfl rfl (w_extract rfl (ev_tmp rfl) rfl) ?_
          refine sq_plain rfl rfl rfl (w_extract rfl (ev_tmp rfl) rfl) ?_
          refine sq_plain rfl rfl rfl (w_assign rfl (ev_tmp rfl)) ?_
          refine sq_plain rfl rfl rfl (w_assign rfl (ev_tmp rfl)) ?_
          refine sq_nil ?_
          refine awp_seq ?_
          refine awp_region_any (by kernel_rfl) (by kernel_rfl) rfl ?_
          refine ch_plain rfl rfl (w_move rfl (ev_tmp rfl)) ?_
          refine ch_plain rfl rfl (w_move rfl (ev_tmp rfl)) ?_
          refine ch_plain rfl rfl (w_beql rfl Tryz.underlying4 (ev_tmp rfl) (ev_tmp rfl)) ?_
          refine ch_plain rfl rfl (w_move rfl (ev_tmp rfl)) ?_
          refine ch_grd rfl (guard_t rfl rfl rfl) (fun hc => w_loadA 8 rfl (ev_tmp rfl) rfl Tryz.isAgg37 Tryz.sizeOf37 rfl) ?_
          refine ch_grd rfl (guard_t rfl rfl rfl) (fun hc => w_loadA 7 rfl (ev_tmp rfl) rfl Tryz.isAgg37 Tryz.sizeOf37 rfl) ?_
          refine ch_grd rfl (guard_t rfl rfl rfl) (fun hc => w_call rfl Tryz.call25 rfl (sameRecS_spec _ _) (evl_cons (ev_whn rfl hc) (evl_cons (ev_whn rfl hc) evl_nil))) ?_
          refine ch_plain rfl rfl (w_and rfl (ev_tmp rfl) (evif_w rfl)) ?_
          refine ch_plain rfl rfl (w_move rfl (ev_tmp rfl)) ?_
          refine ch_grd rfl (guard_t rfl rfl rfl) (fun hc => w_move rfl (ev_tmp rfl)) ?_
          refine ch_grd rfl (guard_t rfl rfl rfl) (fun hc => w_move rfl (ev_tmp rfl)) ?_
          refine ch_grd rfl (guard_t rfl rfl rfl) (fun hc => w_beql rfl Tryz.underlying4 (ev_whn rfl hc) (ev_whn rfl hc)) ?_
          refine ch_plain rfl rfl (w_and rfl (ev_tmp rfl) (evif_w rfl)) ?_
          refine ch_plain rfl rfl (w_move rfl (ev_tmp rfl)) ?_
          refine ch_grd rfl (guard_t rfl rfl rfl) (fun hc => w_loadA 6 rfl (ev_tmp rfl) rfl Tryz.isAgg37 Tryz.sizeOf37 rfl) ?_
          refine ch_grd rfl (guard_t rfl rfl rfl) (fun hc => w_loadA 5 rfl (ev_tmp rfl) rfl Tryz.isAgg37 Tryz.sizeOf37 rfl) ?_
          refine ch_grd rfl (guard_t rfl rfl rfl) (fun hc => w_call rfl Tryz.call25 rfl (sameRecS_spec _ _) (evl_cons (ev_whn rfl hc) (evl_cons (ev_whn rfl hc) evl_nil))) ?_
          refine ch_plain rfl rfl (w_and rfl (ev_tmp rfl) (evif_w rfl)) ?_
          refine ch_plain rfl rfl (w_move rfl (ev_tmp rfl)) ?_
          refine ch_grd rfl (guard_t rfl rfl rfl) (fun hc => w_loadA 2 rfl (ev_tmp rfl) rfl Tryz.isAgg37 Tryz.sizeOf37 rfl) ?_
          refine ch_grd rfl (guard_t rfl rfl rfl) (fun hc => w_loadA 1 rfl (ev_tmp rfl) rfl Tryz.isAgg37 Tryz.sizeOf37 rfl) ?_
          refine ch_grd rfl (guard_t rfl rfl rfl) (fun hc => w_callB rfl Tryz.call26 rfl (sameRec_spec x162.1.1 x162.1.2) (flat_bool _) (evlb_cons (evb (ev_whn rfl hc)) (evlb_cons (evb_lt (ev_whn rfl hc) (lt_agg (lc_cons lt_refl (lc_cons lt_refl (lc_cons lt_refl (lc_cons lt_refl (lc_cons (lt_arr (List.mem_of_getElem? (i := 3) rfl) le_refl_e) (lc_cons (lt_arr (List.mem_of_getElem? (i := 4) rfl) le_refl_e) (lc_cons lt_refl lc_nil))))))))) evlb_nil))) ?_
          refine ch_grd rfl (guard_t rfl rfl rfl) (fun hc => w_loadA 2 rfl (ev_tmp rfl) rfl Tryz.isAgg37 Tryz.sizeOf37 rfl) ?_
          refine ch_grd rfl (guard_t rfl rfl rfl) (fun hc => w_loadA 1 rfl (ev_tmp rfl) rfl Tryz.isAgg37 Tryz.sizeOf37 rfl) ?_
          refine ch_grd rfl (guard_t rfl rfl rfl) (fun hc => w_callB rfl Tryz.call25 rfl (sameRecS_spec x162.1.1 x162.1.2) (flat_bool _) (evlb_cons (evb (ev_whn rfl hc)) (evlb_cons (evb_lt (ev_whn rfl hc) (lt_agg (lc_cons lt_refl (lc_cons lt_refl (lc_cons lt_refl (lc_cons lt_refl (lc_cons (lt_arr (List.mem_of_getElem? (i := 3) rfl) le_refl_e) (lc_cons (lt_arr (List.mem_of_getElem? (i := 4) rfl) le_refl_e) (lc_cons lt_refl lc_nil))))))))) evlb_nil))) ?_
          refine ch_grd rfl (guard_t rfl rfl rfl) (fun hc => w_beql rfl Tryz.underlying4 (ev_whn rfl hc) (ev_whn rfl hc)) ?_
          refine ch_plain rfl rfl (w_and rfl (ev_tmp rfl) (evif_w rfl)) ?_
          refine ch_plain rfl rfl (w_move rfl (ev_tmp rfl)) ?_
          refine ch_grd rfl (guard_t rfl rfl rfl) (fun hc => w_move rfl (ev_tmp rfl)) ?_
          refine ch_grd rfl (guard_t rfl rfl rfl) (fun hc => w_move rfl (ev_tmp rfl)) ?_
          refine ch_grd rfl (guard_t rfl rfl rfl) (fun hc => w_beql rfl Tryz.underlying4 (ev_whn rfl hc) (ev_whn rfl hc)) ?_
          refine ch_plain rfl rfl (w_and rfl (ev_tmp rfl) (evif_w rfl)) ?_
          refine ch_plain rfl rfl (w_move rfl (ev_tmp rfl)) ?_
          refine ch_grd rfl (guard_t rfl rfl rfl) (fun hc => w_move rfl (ev_tmp rfl)) ?_
          refine ch_grd rfl (guard_t rfl rfl rfl) (fun hc => w_move rfl (ev_tmp rfl)) ?_
          refine ch_grd rfl (guard_t rfl rfl rfl) (fun hc => w_call rfl Tryz.call35 rfl (sameTexts_spec _ _) (evl_cons (ev_whn rfl hc) (evl_cons (ev_whn rfl hc) evl_nil))) ?_
          refine ch_plain rfl rfl (w_and rfl (ev_tmp rfl) (evif_w rfl)) ?_
          refine ch_plain rfl rfl (w_assign rfl (ev_tmp rfl)) ?_
          refine ch_nil ?_
          refine awp_ret ?_
          exact retR rfl (rv_tmp' rfl (by first | rfl | exact congrArg AV.bool (by simp)))
      · intro h96
        refine awp_skip ?_
        refine awp_seq ?_
        refine awp_region ?_
        refine sq_plain rfl rfl rfl (w_move rfl (ev_tmp rfl)) ?_
        refine sq_callG [] rfl rfl rfl rfl Tryz.call27 rfl (drawReadRec_own more hb1) (evl_cons (ev_tmp rfl) evl_nil) rfl ?_
        intro x137 ok137
        have hx137 : x137.length ≤ 500 := ok137
        refine sq_plain rfl rfl rfl (w_assign rfl (ev_tmp rfl)) ?_
        refine sq_nil ?_
        refine awp_seq ?_
        refine awp_region ?_
        refine sq_plain rfl rfl rfl (w_move rfl (ev_tmp rfl)) ?_
        refine sq_plain rfl rfl rfl (w_call rfl Tryz.call23 rfl (readRecF_spec x137 (by omega)) (evl_cons (ev_tmp rfl) evl_nil)) ?_
        refine sq_plain rfl rfl rfl (w_move rfl (ev_tmp rfl)) ?_
        refine sq_plain rfl rfl rfl (w_extract rfl (ev_tmp rfl) rfl) ?_
        refine sq_plain rfl rfl rfl (w_extract rfl (ev_tmp rfl) rfl) ?_
        refine sq_alloc rfl rfl rfl rfl Tryz.zeroValue37 rfl ?_
        intro b19
        refine sq_storeB0 0 rfl rfl rfl (ev_tmp rfl) (ev_tmp rfl) (as_agg _) rfl Tryz.sizeOf37 rfl ?_
        refine sq_plain rfl rfl rfl (w_assign rfl (ev_tmp rfl)) ?_
        refine sq_nil ?_
        refine awp_seq ?_
        refine awp_region ?_
        refine sq_plain rfl rfl rfl (w_move rfl (ev_tmp rfl)) ?_
        refine sq_plain rfl rfl rfl (w_call rfl Tryz.call28 rfl (readRecSF_spec x137 (by omega)) (evl_cons (ev_tmp rfl) evl_nil)) ?_
        refine sq_plain rfl rfl rfl (w_move rfl (ev_tmp rfl)) ?_
        refine sq_plain rfl rfl rfl (w_extract rfl (ev_tmp rfl) rfl) ?_
        refine sq_plain rfl rfl rfl (w_extract rfl (ev_tmp rfl) rfl) ?_
        refine sq_alloc rfl rfl rfl rfl Tryz.zeroValue37 rfl ?_
        intro b21
        refine sq_storeB0 0 rfl rfl rfl (ev_tmp rfl) (ev_tmp rfl) (as_agg _) rfl Tryz.sizeOf37 rfl ?_
        refine sq_plain rfl rfl rfl (w_assign rfl (ev_tmp rfl)) ?_
        refine sq_nil ?_
        refine awp_seq ?_
        refine awp_region ?_
        refine sq_plain rfl rfl rfl (w_move rfl (ev_tmp rfl)) ?_
        refine sq_callG [] rfl rfl rfl rfl Tryz.call29 rfl (drawReadRecText_own more hb1) (evl_cons (ev_tmp rfl) evl_nil) rfl ?_
        intro x149 ok149
        have hx149 : x149.length ≤ 900 := ok149
        refine sq_plain rfl rfl rfl (w_assign rfl (ev_tmp rfl)) ?_
        refine sq_nil ?_
        refine awp_seq ?_
        refine awp_region ?_
        refine sq_plain rfl rfl rfl (w_move rfl (ev_tmp rfl)) ?_
        refine sq_plain rfl rfl rfl (w_callT 3 rfl rfl Tryz.call24 rfl (readRecTextF_spec x149 (by omega)) (evl_cons (ev_tmp rfl) evl_nil) (by first | exact fun _ h => h | exact fun _ h => h.1)) ?_
        refine sq_plain rfl rfl rfl (w_move rfl (ev_tmp rfl)) ?_
        refine sq_plain rfl rfl rfl (w_extract rfl (ev_tmp rfl) rfl) ?_
        refine sq_plain rfl rfl rfl (w_extract rfl (ev_tmp rfl) rfl) ?_
        refine sq_alloc rfl rfl rfl rfl Tryz.zeroValue37 rfl ?_
        intro b24
        refine sq_storeB0 0 rfl rfl rfl (ev_tmp rfl) (ev_tmp rfl) (as_agg _) rfl Tryz.sizeOf37 rfl ?_
        refine sq_plain rfl rfl rfl (w_assign rfl (ev_tmp rfl)) ?_
        refine sq_nil ?_
        refine awp_seq ?_
        refine awp_region ?_
        refine sq_plain rfl rfl rfl (w_move rfl (ev_tmp rfl)) ?_
        refine sq_plain rfl rfl rfl (w_call rfl Tryz.call30 rfl (readRecTextSF_spec x149 (by omega)) (evl_cons (ev_tmp rfl) evl_nil)) ?_
        refine sq_plain rfl rfl rfl (w_move rfl (ev_tmp rfl)) ?_
        refine sq_plain rfl rfl rfl (w_extract rfl (ev_tmp rfl) rfl) ?_
        refine sq_plain rfl rfl rfl (w_extract rfl (ev_tmp rfl) rfl) ?_
        refine sq_alloc rfl rfl rfl rfl Tryz.zeroValue37 rfl ?_
        intro b26
        refine sq_storeB0 0 rfl rfl rfl (ev_tmp rfl) (ev_tmp rfl) (as_agg _) rfl Tryz.sizeOf37 rfl ?_
        refine sq_plain rfl rfl rfl (w_assign rfl (ev_tmp rfl)) ?_
        refine sq_nil ?_
        refine awp_seq ?_
        refine awp_region ?_
        refine sq_plain rfl rfl rfl (w_move rfl (ev_tmp rfl)) ?_
        refine sq_callG [] rfl rfl rfl rfl Tryz.call31 rfl (drawSameRec_own more hb1) (evl_cons (ev_tmp rfl) evl_nil) rfl ?_
        intro x162 ok162
        refine sq_plain rfl rfl rfl (w_move rfl (ev_tmp rfl)) ?_
        refine sq_plain rfl rfl rfl (w_extract rfl (ev_tmp rfl) rfl) ?_
        refine sq_plain rfl rfl rfl (w_extract rfl (ev_tmp rfl) rfl) ?_
        refine sq_alloc rfl rfl rfl rfl Tryz.zeroValue37 rfl ?_
        intro b28
        refine sq_alloc rfl rfl rfl rfl Tryz.zeroValue37 rfl ?_
        intro b29
        refine sq_storeB0 1 rfl rfl rfl (ev_tmp rfl) (ev_tmp rfl) (as_agg _) rfl Tryz.sizeOf37 rfl ?_
        refine sq_storeB0 0 rfl rfl rfl (ev_tmp rfl) (ev_tmp rfl) (as_agg _) rfl Tryz.sizeOf37 rfl ?_
        refine sq_nil ?_
        refine awp_seq ?_
        refine awp_region ?_
        refine sq_plain rfl rfl rfl (w_move rfl (ev_tmp rfl)) ?_
        refine sq_callG [] rfl rfl rfl rfl Tryz.call32 rfl (drawKeysOf_own more hb1) (evl_cons (ev_tmp rfl) evl_nil) rfl ?_
        intro x166 ok166
        have hsk : x166.size ≤ 1048576 := Nat.le_trans ok166 (by decide)
        refine sq_alloc rfl rfl rfl rfl Tryz.zeroValue37 rfl ?_
        intro b30
        refine sq_storeB0 0 rfl rfl rfl (ev_tmp rfl) (ev_tmp rfl) (as_agg _) rfl Tryz.sizeOf37 rfl ?_
        refine sq_nil ?_
        refine awp_seq ?_
        refine awp_region ?_
        refine sq_plain rfl rfl rfl (w_loadA 0 rfl (ev_tmp rfl) rfl Tryz.isAgg37 Tryz.sizeOf37 rfl) ?_
        refine sq_plain rfl rfl rfl (w_call rfl Tryz.call33 rfl (keysF_spec x166 hsk) (evl_cons (ev_tmp rfl) evl_nil)) ?_
        refine sq_plain rfl rfl rfl (w_move rfl (ev_tmp rfl)) ?_
        refine sq_plain rfl rfl rfl (w_extract rfl (ev_tmp rfl) rfl) ?_
        refine sq_plain rfl rfl rfl (w_extract rfl (ev_tmp rfl) rfl) ?_
        refine sq_plain rfl rfl rfl (w_assign rfl (ev_tmp rfl)) ?_
        refine sq_plain rfl rfl rfl (w_assign rfl (ev_tmp rfl)) ?_
        refine sq_nil ?_
        refine awp_seq ?_
        refine awp_region ?_
        refine sq_plain rfl rfl rfl (w_loadA 0 rfl (ev_tmp rfl) rfl Tryz.isAgg37 Tryz.sizeOf37 rfl) ?_
        refine sq_plain rfl rfl rfl (w_call rfl Tryz.call34 rfl (keysSF_spec x166 hsk) (evl_cons (ev_tmp rfl) evl_nil)) ?_
        refine sq_plain rfl rfl rfl (w_move rfl (ev_tmp rfl)) ?_
        refine sq_plain rfl rfl rfl (w_extract rfl (ev_tmp rfl) rfl) ?_
        refine sq_plain rfl rfl rfl (w_extract rfl (ev_tmp rfl) rfl) ?_
        refine sq_plain rfl rfl rfl (w_assign rfl (ev_tmp rfl)) ?_
        refine sq_plain rfl rfl rfl (w_assign rfl (ev_tmp rfl)) ?_
        refine sq_nil ?_
        refine awp_seq ?_
        refine awp_region_any (by kernel_rfl) (by kernel_rfl) rfl ?_
        refine ch_plain rfl rfl (w_move rfl (ev_tmp rfl)) ?_
        refine ch_plain rfl rfl (w_move rfl (ev_tmp rfl)) ?_
        refine ch_plain rfl rfl (w_beql rfl Tryz.underlying4 (ev_tmp rfl) (ev_tmp rfl)) ?_
        refine ch_plain rfl rfl (w_move rfl (ev_tmp rfl)) ?_
        refine ch_grd rfl (guard_t rfl rfl rfl) (fun hc => w_loadA 8 rfl (ev_tmp rfl) rfl Tryz.isAgg37 Tryz.sizeOf37 rfl) ?_
        refine ch_grd rfl (guard_t rfl rfl rfl) (fun hc => w_loadA 7 rfl (ev_tmp rfl) rfl Tryz.isAgg37 Tryz.sizeOf37 rfl) ?_
        refine ch_grd rfl (guard_t rfl rfl rfl) (fun hc => w_call rfl Tryz.call25 rfl (sameRecS_spec _ _) (evl_cons (ev_whn rfl hc) (evl_cons (ev_whn rfl hc) evl_nil))) ?_
        refine ch_plain rfl rfl (w_and rfl (ev_tmp rfl) (evif_w rfl)) ?_
        refine ch_plain rfl rfl (w_move rfl (ev_tmp rfl)) ?_
        refine ch_grd rfl (guard_t rfl rfl rfl) (fun hc => w_move rfl (ev_tmp rfl)) ?_
        refine ch_grd rfl (guard_t rfl rfl rfl) (fun hc => w_move rfl (ev_tmp rfl)) ?_
        refine ch_grd rfl (guard_t rfl rfl rfl) (fun hc => w_beql rfl Tryz.underlying4 (ev_whn rfl hc) (ev_whn rfl hc)) ?_
        refine ch_plain rfl rfl (w_and rfl (ev_tmp rfl) (evif_w rfl)) ?_
        refine ch_plain rfl rfl (w_move rfl (ev_tmp rfl)) ?_
        refine ch_grd rfl (guard_t rfl rfl rfl) (fun hc => w_loadA 6 rfl (ev_tmp rfl) rfl Tryz.isAgg37 Tryz.sizeOf37 rfl) ?_
        refine ch_grd rfl (guard_t rfl rfl rfl) (fun hc => w_loadA 5 rfl (ev_tmp rfl) rfl Tryz.isAgg37 Tryz.sizeOf37 rfl) ?_
        refine ch_grd rfl (guard_t rfl rfl rfl) (fun hc => w_call rfl Tryz.call25 rfl (sameRecS_spec _ _) (evl_cons (ev_whn rfl hc) (evl_cons (ev_whn rfl hc) evl_nil))) ?_
        refine ch_plain rfl rfl (w_and rfl (ev_tmp rfl) (evif_w rfl)) ?_
        refine ch_plain rfl rfl (w_move rfl (ev_tmp rfl)) ?_
        refine ch_grd rfl (guard_t rfl rfl rfl) (fun hc => w_loadA 2 rfl (ev_tmp rfl) rfl Tryz.isAgg37 Tryz.sizeOf37 rfl) ?_
        refine ch_grd rfl (guard_t rfl rfl rfl) (fun hc => w_loadA 1 rfl (ev_tmp rfl) rfl Tryz.isAgg37 Tryz.sizeOf37 rfl) ?_
        refine ch_grd rfl (guard_t rfl rfl rfl) (fun hc => w_callB rfl Tryz.call26 rfl (sameRec_spec x162.1.1 x162.1.2) (flat_bool _) (evlb_cons (evb (ev_whn rfl hc)) (evlb_cons (evb_lt (ev_whn rfl hc) (lt_agg (lc_cons lt_refl (lc_cons lt_refl (lc_cons lt_refl (lc_cons lt_refl (lc_cons (lt_arr (List.mem_of_getElem? (i := 3) rfl) le_refl_e) (lc_cons (lt_arr (List.mem_of_getElem? (i := 4) rfl) le_refl_e) (lc_cons lt_refl lc_nil))))))))) evlb_nil))) ?_
        refine ch_grd rfl (guard_t rfl rfl rfl) (fun hc => w_loadA 2 rfl (ev_tmp rfl) rfl Tryz.isAgg37 Tryz.sizeOf37 rfl) ?_
        refine ch_grd rfl (guard_t rfl rfl rfl) (fun hc => w_loadA 1 rfl (ev_tmp rfl) rfl Tryz.isAgg37 Tryz.sizeOf37 rfl) ?_
        refine ch_grd rfl (guard_t rfl rfl rfl) (fun hc => w_callB rfl Tryz.call25 rfl (sameRecS_spec x162.1.1 x162.1.2) (flat_bool _) (evlb_cons (evb (ev_whn rfl hc)) (evlb_cons (evb_lt (ev_whn rfl hc) (lt_agg (lc_cons lt_refl (lc_cons lt_refl (lc_cons lt_refl (lc_cons lt_refl (lc_cons (lt_arr (List.mem_of_getElem? (i := 3) rfl) le_refl_e) (lc_cons (lt_arr (List.mem_of_getElem? (i := 4) rfl) le_refl_e) (lc_cons lt_refl lc_nil))))))))) evlb_nil))) ?_
        refine ch_grd rfl (guard_t rfl rfl rfl) (fun hc => w_beql rfl Tryz.underlying4 (ev_whn rfl hc) (ev_whn rfl hc)) ?_
        refine ch_plain rfl rfl (w_and rfl (ev_tmp rfl) (evif_w rfl)) ?_
        refine ch_plain rfl rfl (w_move rfl (ev_tmp rfl)) ?_
        refine ch_grd rfl (guard_t rfl rfl rfl) (fun hc => w_move rfl (ev_tmp rfl)) ?_
        refine ch_grd rfl (guard_t rfl rfl rfl) (fun hc => w_move rfl (ev_tmp rfl)) ?_
        refine ch_grd rfl (guard_t rfl rfl rfl) (fun hc => w_beql rfl Tryz.underlying4 (ev_whn rfl hc) (ev_whn rfl hc)) ?_
        refine ch_plain rfl rfl (w_and rfl (ev_tmp rfl) (evif_w rfl)) ?_
        refine ch_plain rfl rfl (w_move rfl (ev_tmp rfl)) ?_
        refine ch_grd rfl (guard_t rfl rfl rfl) (fun hc => w_move rfl (ev_tmp rfl)) ?_
        refine ch_grd rfl (guard_t rfl rfl rfl) (fun hc => w_move rfl (ev_tmp rfl)) ?_
        refine ch_grd rfl (guard_t rfl rfl rfl) (fun hc => w_call rfl Tryz.call35 rfl (sameTexts_spec _ _) (evl_cons (ev_whn rfl hc) (evl_cons (ev_whn rfl hc) evl_nil))) ?_
        refine ch_plain rfl rfl (w_and rfl (ev_tmp rfl) (evif_w rfl)) ?_
        refine ch_plain rfl rfl (w_assign rfl (ev_tmp rfl)) ?_
        refine ch_nil ?_
        refine awp_ret ?_
        exact retR rfl (rv_tmp' rfl (by first | rfl | exact congrArg AV.bool (by simp)))
end
theorem opens_bytes : Opens Tryz.prog 22 (List Int) (fun l => [bytesI l]) (fun l => ∀ x ∈ l, (Lit.int .u8 x).wf = true) := opens_slice (sz := 1) Tryz.underlying22 (by kernel_rfl) (opens_int Tryz.underlying5) (fun _ => rfl)
set_option maxRecDepth 100000 in
theorem fnRecords_lifted (os : Os) (started : os.Started) (H : Type) (enc : TypeId × Value → H) :
    ReturnsInHanded {} Tryz.checked os 4 .any (fun w args => (Rows.fnRecordsSpec.pre enc Tryz.prog Tryz.f4 [] false w args ∧ laidMetH Tryz.prog Rows.fnRecordsRow.laid w) ∧ sizedMet enc Tryz.prog Tryz.f4 (OpenSpec.ofChange Rows.fnRecordsSpec) false w args) (Rows.fnRecordsSpec.post enc Tryz.prog Tryz.f4 false true false false) := by
  refine Go.AV.handed_shaped (C := Tryz.checked) (X := fun w _ => laidMetH Tryz.prog Rows.fnRecordsRow.laid w) (fun _ _ _ hh h => h.of_heap hh) (by kernel_rfl) started (by kernel_rfl) Tryz.func4
    (ChangeSpec.witness_shaped (enc := enc) (C := Tryz.checked) (os := os) (X := fun w _ => laidMetH Tryz.prog Rows.fnRecordsRow.laid w) false (World.laidAll Tryz.prog os Rows.fnRecordsRow.laid) #[.slice none 0 0, .slice none 0 0] 8 (World.laidAll_os _ _ _)
      (World.shaped_of_ZipB (by kernel_rfl) (by kernel_rfl)) (by kernel_rfl) (by kernel_rfl) (by kernel_rfl)
      (by rw [MakeChecks.laidMetH_plain _ _ _ (by kernel_rfl)]; exact laidMet_laidAll _ (by kernel_rfl) (by kernel_rfl))) ?_
  intro W base args ds gs before hval0 hW hsh _ hL _
  rw [MakeChecks.laidMetH_plain _ _ _ (by kernel_rfl)] at hL
  have hT : readW W := readW_of hL hsh
  have hval : ∀ (j : Nat) t v, Tryz.f4.params[j]? = some t → args[j]? = some v → Value.okWide Tryz.prog W .any base t v := hval0
  have hW2 := hW
  obtain ⟨p, q, hA0, hV, rfl, hfz, hnd⟩ := hW
  have hA : DataW.TrodAll enc Tryz.prog W 0 (fun _ => true) true Tryz.f4.params.toList args.toList ds p := hA0
  rw [Tryz.params4] at hA hval
  obtain ⟨v0, vs0, d0, ds0, p0, q0, hargs, rfl, rfl, h0, r0⟩ := trodAll_cons hA
  obtain ⟨v1, vs1, d1, ds1, p1, q1, rfl, rfl, rfl, h1, r1⟩ := trodAll_cons r0
  obtain ⟨rfl, rfl, rfl⟩ := trodAll_nil r1
  obtain rfl : args = #[v0, v1] := by cases args; simp_all
  obtain ⟨rfl, rfl⟩ := trodVars_none hV
  have lt0 : ∀ x ∈ p0, x.block < W.heap.size := by obtain ⟨m, hm⟩ := h0; exact DataW.trod_lt m _ _ _ hm
  obtain ⟨a0, w0, g0⟩ := arg_one (opens_bytes) (by obtain ⟨y1, y2, y3, rfl⟩ := okWide_slice Tryz.underlying22 (hval 0 22 v0 rfl rfl); rfl) h0
  have lt1 : ∀ x ∈ p1, x.block < W.heap.size := by obtain ⟨m, hm⟩ := h1; exact DataW.trod_lt m _ _ _ hm
  obtain ⟨a1, w1, g1⟩ := arg_one (opens_bytes) (by obtain ⟨y1, y2, y3, rfl⟩ := okWide_slice Tryz.underlying22 (hval 1 22 v1 rfl rfl); rfl) h1
  have hcall := law_calls (fnRecords_spec a0 w0 a1 w1) (DenV.cons ⟨g0, fun w2 hw2 => readW_heap hT hw2⟩ (DenV.cons g1 (DenV.nil _)))
  clear hA0 hval0
  refine Calls.mono hcall fun e W2 ⟨he, bel⟩ => ?_
  subst he
  exact ⟨_, rfl, _, _, _, [], _, [], hW2, trodAll_mk1 (shut_bool Tryz.underlying4 _), (trodAll_cons_mk (Below.trod (by kernel_rfl : laidOutB Tryz.prog = true) (by kernel_rfl) (of_decide_eq_true (by kernel_rfl)) h0 bel lt0) (trodAll_cons_mk (Below.trod (by kernel_rfl : laidOutB Tryz.prog = true) (by kernel_rfl) (of_decide_eq_true (by kernel_rfl)) h1 bel lt1) trodAll_mk0)), rfl, bel.frame _, fun h => by cases h⟩
theorem fnRecords_and {a b : Bool} (h : a = true) (k : b = true) : (a && b) = true := by rw [h, k]; rfl
set_option maxRecDepth 100000 in
theorem fnRecords_facts : joinedFacts Tryz.pinned.checked.prog 4 Tryz.f4 Rows.fnRecordsSpec Rows.fnRecordsRow = true := by
  unfold joinedFacts
  iterate 18 (rw [Bool.and_assoc])
  refine fnRecords_and ?_ ?_
  · as_aux_lemma => kernel_rfl
  · as_aux_lemma => kernel_rfl
theorem fnRecords_row : Rows.FnRecordsSaid :=
  OpenClaim.holds_of_wide 4 Tryz.f4 rfl rfl rfl rfl rfl rfl rfl ⟨rfl, rfl, rfl, rfl, rfl⟩ rfl rfl rfl rfl rfl (by kernel_rfl) Tryz.func4 fnRecords_facts
    (of_decide_eq_true (by kernel_rfl)) (by unfold Func.isWrapper; first | (rw [if_pos (by decide +kernel)]; kernel_rfl) | (rw [if_neg (by decide +kernel)]; exact ⟨rfl, rfl⟩))
    (fun os started H enc _ => fnRecords_lifted os started H enc)
theorem fnRecords_proved : Rows.FnRecordsCardSaid :=
  Claim7.holds_tied_plain_at .later [] [.data, .data, .data, .data, .sentinel, .sentinel, .pinned] true (true, "fa1cdc7bd371ac36be46feaa8edcfd9c1abc85fab5c4da3d361d8aa0cbe0ea75") true
    fnRecords_row (fun _ h => by cases h) (by kernel_rfl) (fun _ h => by cases h) fnRecords_row_tie rfl ⟨rfl, rfl⟩ (by kernel_rfl) rfl
    (fun f fn hf hfn => by
      obtain rfl : f = 4 := Option.some.inj ((show Tryz.prog.funcNamed "loop.example/g00850/laws.FnRecords" = some 4 by kernel_rfl).symm.trans hf) |>.symm
      obtain rfl : fn = Tryz.f4 := (Option.some.inj (Tryz.func4.symm.trans hfn)).symm
      exact ⟨by kernel_rfl, fun j t ht => by
        rw [Tryz.params4] at ht
        have hm : t ∈ [22, 22] := by simpa using Array.mem_of_getElem? ht
        have hall : ([22, 22].all fun u => !Tryz.prog.wantsStandIn u) = true := by kernel_rfl
        exact (show Tryz.prog.wantsStandIn t = false by simpa using List.all_eq_true.1 hall t hm)⟩)
    (by kernel_rfl)
end Go.Proofs.YtmlmmgeadombbaaGreatDoor
