/- FnCells: for all drawn cells a write is visible from its time on, and all earlier times are unaffected; the program answers what the reference answers. No condition. -/
import Derived.Test.YteliahajeokciaaRows
import Derived.ProofKit
import Derived.OpenShut
import Derived.ShutString
import Derived.ChangeOld
import Derived.Test.YteliahajeokciaaZCells6

set_option linter.unusedVariables false
set_option linter.unusedSimpArgs false
set_option maxRecDepth 100000
set_option maxHeartbeats 1000000
namespace Go.M
open Go.AV
theorem trimBy_step {g : List TVer → List TVer} {l : List TCell} {i : Nat} {c : TCell} (hc : l[i]? = some c) : (trimBy g (l.take (i + 1))).map TCell.cs = (trimBy g (l.take i)).map TCell.cs ++ (if 0 < (g c.Vers).length then [TCell.cs ⟨c.Key, g c.Vers⟩] else []) := by
  unfold trimBy
  rw [List.take_add_one, hc, Option.toList_some, List.filterMap_append, List.map_append]
  congr 1
  simp only [List.filterMap_cons, List.filterMap_nil]
  split <;> simp_all
theorem lastFrom_step {f : Int} {vs : List TVer} {i b : Nat} {v : TVer} (h : lastFrom f vs 0 0 = lastFrom f (vs.drop i) i b) (hv : vs[i]? = some v) : lastFrom f vs 0 0 = lastFrom f (vs.drop (i + 1)) (i + 1) (if v.Time ≤ f then i else b) := by
  rw [h, drop_some hv]; rfl
theorem keepF_step {f : Int} {vs ks : List TVer} {i : Nat} {v : TVer} (h : keepF f vs = ks ++ keepF f (vs.drop i)) (hv : vs[i]? = some v) : keepF f vs = (ks ++ (if (decide (f < v.Time) || (!headLe f (vs.drop (i + 1)) && !v.Gone)) = true then [v] else [])) ++ keepF f (vs.drop (i + 1)) := by
  rw [h, drop_some hv, keepF, List.append_assoc]
theorem headLe_drop {f : Int} {vs : List TVer} {i : Nat} : headLe f (vs.drop i) = match vs[i]? with | some u => decide (u.Time ≤ f) | none => false := by
  cases h : vs[i]? with
  | none => rw [List.drop_eq_nil_of_le (List.getElem?_eq_none_iff.1 h)]; rfl
  | some u => rw [drop_some h]; rfl
end Go.M
namespace Go.Proofs.Yteliahajeokciaa
open Go Go.AV Go.M
attribute [local irreducible] OpW OpA OpS AWP FSpec ESpec GSpec OpE RetOk RetOkG RvDen Le Ev GuardIs SrcIs
theorem cloneVerL_spec (l : List TVer) (hl : l.length ≤ 4194304) : FSpec Try.prog 231 [AV.list 3 (l.map TVer.cs)] (AV.list 3 (l.map TVer.cs)) :=
  fspec_of_gspec (cloneVer_spec l hl) fun x _ => lt_arr (List.mem_of_getElem? (i := 0) rfl) le_refl_e
theorem trimR_spec (l : List TCell) (f : Int) (hg : goodCells l = true) (hs : sizeL TCell.size l ≤ 1048576) : FSpec Try.prog 142 [AV.list 2 (l.map TCell.cs), AV.int f] (AV.list 2 ((trimR l f).map TCell.cs)) := by
  have hl : l.length ≤ 1048576 := Nat.le_trans sizeL_len hs
  refine spec_of_awp Try.func142 rfl Try.ntmps142 rfl ?_
  refine awp_seq ?_
  refine awp_region ?_
  refine sq_plain rfl rfl rfl (w_assign rfl (ev_cnil (sz := 2))) ?_
  refine sq_nil ?_
  refine awp_seq ?_
  refine awp_region ?_
  refine sq_emptyarr rfl rfl rfl rfl Try.underlying53 Try.sizeOf153 ?_
  intro v12
  refine sq_plain rfl rfl rfl (w_assign rfl (ev_tmp rfl)) ?_
  refine sq_nil ?_
  refine awp_seq ?_
  refine awp_seq ?_
  refine awp_region ?_
  refine sq_plain rfl rfl rfl (w_move rfl (ev_tmp rfl)) ?_
  refine sq_plain rfl rfl rfl (w_llen rfl Try.underlying53 (ev_tmp rfl)) ?_
  refine sq_plain rfl rfl rfl (w_move rfl ev_ci) ?_
  refine sq_nil ?_
  refine awp_block ?_
  refine awp_loop_i2 [(1, _), (4, _), (13, _), (14, _)] _ (fun (i : Nat) (v : Value) => i ≤ l.length) (fun (i : Nat) (v : Value) => [.arr v 153 2 ((trimR (l.take i) f).map TCell.cs)]) (fun (i : Nat) (v : Value) => [(5, AV.is v), (15, AV.int i)]) (fun (i : Nat) (v : Value) => l.length - i) (0) (v12) ?_ (le_eq (by rfl) ⟨rfl, rfl, rfl, rfl, rfl, rfl, trivial⟩) ?_
  · exact Nat.zero_le _
  intro i v hinv
  refine awp_seq ?_
  refine awp_region ?_
  refine sq_plain rfl rfl rfl (w_lss rfl (ev_tmp rfl) (ev_tmp rfl)) ?_
  refine sq_nil ?_
  refine awp_seq ?_
  refine awp_cond (ev_tmp rfl) ?_ ?_
  · intro h16
    have k16 := of_decide_eq_true h16; try simp only [List.length_map] at k16
    have hlt : i < l.length := by omega
    obtain ⟨x, hx⟩ := get_some hlt
    have hcl := (cell_len (Nat.le_trans (sizeL_get hx) hs)).2.1
    have hv1 := ((goodCells_facts hg).2.2 x (List.mem_of_getElem? hx)).2.1
    have hst := trimBy_step (g := trimV f) hx
    have htl : (trimR (l.take i) f).length ≤ i := (by have h9 := trimBy_len (trimV f) (l.take i); rw [List.length_take] at h9; unfold trimR; omega)
    have hinv0 := hinv; clear hinv
    refine awp_skip ?_
    refine awp_seq ?_
    refine awp_block ?_
    refine awp_seq ?_
    refine awp_region ?_
    refine sq_plain rfl rfl rfl (w_idxm rfl Try.underlying53 Try.sizeOf153 (ev_tmp rfl) (ev_tmp rfl) hx (by first | omega | ((try simp only [List.length_map, List.length_take, List.length_cons, List.length_nil, chunks_len, szR] at *); omega) | (have hc2 := hc; simp only [Bool.and_eq_true, Bool.or_eq_true, Bool.or_eq_false_iff, Bool.and_eq_false_iff, Bool.not_eq_true', Bool.not_eq_false', decide_eq_true_eq, decide_eq_false_iff_not, beq_iff_eq, bne_iff_ne, List.length_map, List.length_take] at hc2; omega))) ?_
    refine sq_plain rfl rfl rfl (w_loadE rfl (ev_tmp rfl) Try.isAgg153 Try.sizeOf153) ?_
    refine sq_alloc rfl rfl rfl rfl Try.zeroValue153 rfl ?_
    intro b7
    refine sq_storeB0 0 rfl rfl rfl (ev_tmp rfl) (ev_tmp rfl) (as_agg _) rfl Try.sizeOf153 rfl ?_
    refine sq_nil ?_
    refine awp_seq ?_
    refine awp_region ?_
    refine sq_plain rfl rfl rfl (w_assign rfl ev_ci) ?_
    refine sq_nil ?_
    refine awp_seq ?_
    refine awp_seq ?_
    refine awp_region ?_
    refine sq_plain rfl rfl rfl (w_fldBn 1 rfl Try.underlying153 rfl Try.sizeOf151 (ev_tmp rfl) rfl) ?_
    refine sq_plain rfl rfl rfl (w_loadB1 0 rfl (ev_tmp rfl) rfl Try.isAgg151 rfl) ?_
    refine sq_plain rfl rfl rfl (w_llen rfl Try.underlying151 (ev_tmp rfl)) ?_
    refine sq_plain rfl rfl rfl (w_move rfl ev_ci) ?_
    refine sq_nil ?_
    refine awp_block ?_
    refine awp_loop_i2 [(1, _), (4, _), (5, _), (7, _), (13, _), (14, _), (15, _), (16, _), (17, _), (18, _), (19, _), (20, _), (21, _)] _ (fun (j : Nat) (b : Nat) => j ≤ x.Vers.length ∧ lastFrom f x.Vers 0 0 = lastFrom f (x.Vers.drop j) j b ∧ (b : Int) ≤ j) (fun (j : Nat) (b : Nat) => []) (fun (j : Nat) (b : Nat) => [(8, AV.int b), (22, AV.int j)]) (fun (j : Nat) (b : Nat) => x.Vers.length - j) (0) (0) ?_ (le_env ⟨rfl, rfl, rfl, rfl, rfl, rfl, rfl, rfl, rfl, rfl, rfl, rfl, rfl, rfl, rfl, trivial⟩) ?_
    · exact ⟨Nat.zero_le _, rfl, by omega⟩
    intro j b hinv
    refine awp_seq ?_
    refine awp_region ?_
    refine sq_plain rfl rfl rfl (w_lss rfl (ev_tmp rfl) (ev_tmp rfl)) ?_
    refine sq_nil ?_
    refine awp_seq ?_
    refine awp_cond (ev_tmp rfl) ?_ ?_
    · intro h23
      have k23 := of_decide_eq_true h23; try simp only [List.length_map] at k23
      have hlt2 : j < x.Vers.length := by omega
      obtain ⟨y, hy⟩ := get_some hlt2
      refine awp_skip ?_
      refine awp_seq ?_
      refine awp_block ?_
      refine awp_seq ?_
      refine awp_region ?_
      refine sq_plain rfl rfl rfl (w_move rfl (ev_tmp rfl)) ?_
      refine sq_plain rfl rfl rfl (w_idxm rfl Try.underlying151 Try.sizeOf155 (ev_tmp rfl) (ev_tmp rfl) hy (by first | omega | ((try simp only [List.length_map, List.length_take, List.length_cons, List.length_nil, chunks_len, szR] at *); omega) | (have hc2 := hc; simp only [Bool.and_eq_true, Bool.or_eq_true, Bool.or_eq_false_iff, Bool.and_eq_false_iff, Bool.not_eq_true', Bool.not_eq_false', decide_eq_true_eq, decide_eq_false_iff_not, beq_iff_eq, bne_iff_ne, List.length_map, List.length_take] at hc2; omega))) ?_
      refine sq_plain rfl rfl rfl (w_loadE rfl (ev_tmp rfl) Try.isAgg155 Try.sizeOf155) ?_
      refine sq_alloc rfl rfl rfl rfl Try.zeroValue155 rfl ?_
      intro b10
      refine sq_plain rfl rfl rfl (w_assign rfl (ev_tmp rfl)) ?_
      refine sq_storeB0 0 rfl rfl rfl (ev_tmp rfl) (ev_tmp rfl) (as_agg _) rfl Try.sizeOf155 rfl ?_
      refine sq_nil ?_
      refine awp_seq ?_
      refine awp_region ?_
      refine sq_plain rfl rfl rfl (w_fldBn 0 rfl Try.underlying155 rfl Try.sizeOf3 (ev_tmp rfl) rfl) ?_
      refine sq_plain rfl rfl rfl (w_loadB1 0 rfl (ev_tmp rfl) rfl Try.isAgg3 rfl) ?_
      refine sq_plain rfl rfl rfl (w_move rfl (ev_tmp rfl)) ?_
      refine sq_plain rfl rfl rfl (w_leq rfl (ev_tmp rfl) (ev_tmp rfl)) ?_
      refine sq_nil ?_
      refine awp_cond (ev_tmp rfl) ?_ ?_
      · intro h30
        have k30 := of_decide_eq_true h30; try simp only [List.length_map] at k30
        refine awp_region ?_
        refine sq_plain rfl rfl rfl (w_move rfl (ev_tmp rfl)) ?_
        refine sq_plain rfl rfl rfl (w_assign rfl (ev_tmp rfl)) ?_
        refine sq_nil ?_
        refine awp_region ?_
        refine sq_plain rfl rfl rfl (w_addi rfl (ev_tmp rfl) ev_ci (by first | omega | ((try simp only [List.length_map, List.length_take, List.length_cons, List.length_nil, chunks_len, szR] at *); omega) | (have hc2 := hc; simp only [Bool.and_eq_true, Bool.or_eq_true, Bool.or_eq_false_iff, Bool.and_eq_false_iff, Bool.not_eq_true', Bool.not_eq_false', decide_eq_true_eq, decide_eq_false_iff_not, beq_iff_eq, bne_iff_ne, List.length_map, List.length_take] at hc2; omega))) ?_
        refine sq_plain rfl rfl rfl (w_move rfl (ev_tmp rfl)) ?_
        refine sq_nil ?_
        refine round_end2 j b (j + 1) (j) ?_ ?_ (le_drop 1 ⟨rfl, rfl, rfl, rfl, rfl, rfl, rfl, rfl, rfl, rfl, rfl, rfl, rfl, rfl, rfl, trivial⟩)
        · exact ⟨by omega, by have h9 := lastFrom_step hinv.2.1 hy; rwa [if_pos k30] at h9, by omega⟩
        · omega
      · intro h30
        have k30 := of_decide_eq_false h30; try simp only [List.length_map] at k30
        refine awp_skip ?_
        refine awp_region ?_
        refine sq_plain rfl rfl rfl (w_addi rfl (ev_tmp rfl) ev_ci (by first | omega | ((try simp only [List.length_map, List.length_take, List.length_cons, List.length_nil, chunks_len, szR] at *); omega) | (have hc2 := hc; simp only [Bool.and_eq_true, Bool.or_eq_true, Bool.or_eq_false_iff, Bool.and_eq_false_iff, Bool.not_eq_true', Bool.not_eq_false', decide_eq_true_eq, decide_eq_false_iff_not, beq_iff_eq, bne_iff_ne, List.length_map, List.length_take] at hc2; omega))) ?_
        refine sq_plain rfl rfl rfl (w_move rfl (ev_tmp rfl)) ?_
        refine sq_nil ?_
        refine round_end2 j b (j + 1) (b) ?_ ?_ (le_drop 1 ⟨rfl, rfl, rfl, rfl, rfl, rfl, rfl, rfl, rfl, rfl, rfl, rfl, rfl, rfl, rfl, trivial⟩)
        · exact ⟨by omega, by have h9 := lastFrom_step hinv.2.1 hy; rwa [if_neg k30] at h9, by omega⟩
        · omega
    · intro h23
      have k23 := of_decide_eq_false h23; try simp only [List.length_map] at k23
      have hge2 : x.Vers.length ≤ j := by omega
      have hlf : lastFrom f x.Vers 0 0 = b := by (have h9 := hinv.2.1; rwa [List.drop_eq_nil_of_le hge2] at h9)
      have hbl := last_lt (f := f) (r := x.Vers) (i := 0) (b := 0) (by omega)
      rw [hlf, Nat.zero_add] at hbl
      obtain ⟨z, hz⟩ := get_some hbl
      refine awp_exit ?_
      refine awp_seq ?_
      refine awp_seq ?_
      refine awp_region ?_
      refine sq_plain rfl rfl rfl (w_fldBn 1 rfl Try.underlying153 rfl Try.sizeOf151 (ev_tmp rfl) rfl) ?_
      refine sq_plain rfl rfl rfl (w_loadB1 0 rfl (ev_tmp rfl) rfl Try.isAgg151 rfl) ?_
      refine sq_plain rfl rfl rfl (w_move rfl (ev_tmp rfl)) ?_
      refine sq_plain rfl rfl rfl (w_idxm rfl Try.underlying151 Try.sizeOf155 (ev_tmp rfl) (ev_tmp rfl) hz (by first | omega | ((try simp only [List.length_map, List.length_take, List.length_cons, List.length_nil, chunks_len, szR] at *); omega) | (have hc2 := hc; simp only [Bool.and_eq_true, Bool.or_eq_true, Bool.or_eq_false_iff, Bool.and_eq_false_iff, Bool.not_eq_true', Bool.not_eq_false', decide_eq_true_eq, decide_eq_false_iff_not, beq_iff_eq, bne_iff_ne, List.length_map, List.length_take] at hc2; omega))) ?_
      refine sq_plain rfl rfl rfl (w_loadE rfl (ev_tmp rfl) Try.isAgg155 Try.sizeOf155) ?_
      refine sq_alloc rfl rfl rfl rfl Try.zeroValue155 rfl ?_
      intro b11
      refine sq_storeB0 0 rfl rfl rfl (ev_tmp rfl) (ev_tmp rfl) (as_agg _) rfl Try.sizeOf155 rfl ?_
      refine sq_nil ?_
      refine awp_seq ?_
      refine awp_region ?_
      refine sq_plain rfl rfl rfl (w_fldBn 0 rfl Try.underlying155 rfl Try.sizeOf3 (ev_tmp rfl) rfl) ?_
      refine sq_plain rfl rfl rfl (w_loadB1 0 rfl (ev_tmp rfl) rfl Try.isAgg3 rfl) ?_
      refine sq_plain rfl rfl rfl (w_move rfl (ev_tmp rfl)) ?_
      refine sq_plain rfl rfl rfl (w_leq rfl (ev_tmp rfl) (ev_tmp rfl)) ?_
      refine sq_plain rfl rfl rfl (w_move rfl (ev_tmp rfl)) ?_
      refine sq_grd rfl rfl (guard_t rfl rfl rfl) (fun hc => w_fldBn 2 rfl Try.underlying155 rfl Try.sizeOf4 (ev_tmp rfl) rfl) ?_
      refine sq_grd rfl rfl (guard_t rfl rfl rfl) (fun hc => w_loadB1 0 rfl (ev_whn rfl hc) rfl Try.isAgg4 rfl) ?_
      refine sq_plain rfl rfl rfl (w_and rfl (ev_tmp rfl) (evif_w rfl)) ?_
      refine sq_nil ?_
      refine awp_cond (ev_tmp rfl) ?_ ?_
      · intro h45
        have hfr : firstR x.Vers f = b + 1 := by (unfold firstR; rw [hlf, hz]; dsimp only; rw [if_pos h45])
        refine awp_region ?_
        refine sq_plain rfl rfl rfl (w_move rfl (ev_tmp rfl)) ?_
        refine sq_plain rfl rfl rfl (w_addi rfl (ev_tmp rfl) ev_ci (by first | omega | ((try simp only [List.length_map, List.length_take, List.length_cons, List.length_nil, chunks_len, szR] at *); omega) | (have hc2 := hc; simp only [Bool.and_eq_true, Bool.or_eq_true, Bool.or_eq_false_iff, Bool.and_eq_false_iff, Bool.not_eq_true', Bool.not_eq_false', decide_eq_true_eq, decide_eq_false_iff_not, beq_iff_eq, bne_iff_ne, List.length_map, List.length_take] at hc2; omega))) ?_
        refine sq_plain rfl rfl rfl (w_assign rfl (ev_tmp rfl)) ?_
        refine sq_nil ?_
        refine awp_seq ?_
        refine awp_region ?_
        refine sq_plain rfl rfl rfl (w_move rfl (ev_tmp rfl)) ?_
        refine sq_plain rfl rfl rfl (w_fldBn 1 rfl Try.underlying153 rfl Try.sizeOf151 (ev_tmp rfl) rfl) ?_
        refine sq_plain rfl rfl rfl (w_loadB1 1 rfl (ev_tmp rfl) rfl Try.isAgg151 rfl) ?_
        refine sq_plain rfl rfl rfl (w_llen rfl Try.underlying151 (ev_tmp rfl)) ?_
        refine sq_plain rfl rfl rfl (w_lss rfl (ev_tmp rfl) (ev_tmp rfl)) ?_
        refine sq_nil ?_
        refine awp_cond (ev_tmp rfl) ?_ ?_
        · intro h52
          have k52 := of_decide_eq_true h52; try simp only [List.length_map] at k52
          have hpos : 0 < (trimV f x.Vers).length := by (unfold trimV; rw [List.length_drop]; omega)
          have hout : (trimR (l.take i) f).map TCell.cs ++ [TCell.cs ⟨x.Key, trimV f x.Vers⟩] = (trimR (l.take (i + 1)) f).map TCell.cs := by (unfold trimR; rw [hst, if_pos hpos])
          rw [show trimV f x.Vers = x.Vers.drop (firstR x.Vers f) from rfl, hfr] at hout
          refine awp_region_tail 10 (by kernel_rfl) (by kernel_rfl) rfl ?_
          refine ch_plain rfl rfl (w_move rfl (ev_tmp rfl)) ?_
          refine ch_plain rfl rfl (w_fldBn 0 rfl Try.underlying153 rfl Try.sizeOf9 (ev_tmp rfl) rfl) ?_
          refine ch_plain rfl rfl (w_loadB1 1 rfl (ev_tmp rfl) rfl Try.isAgg9 rfl) ?_
          refine ch_plain rfl rfl (w_fldBn 1 rfl Try.underlying153 rfl Try.sizeOf151 (ev_tmp rfl) rfl) ?_
          refine ch_plain rfl rfl (w_loadB1 1 rfl (ev_tmp rfl) rfl Try.isAgg151 rfl) ?_
          refine ch_plain rfl rfl (w_move rfl (ev_tmp rfl)) ?_
          refine ch_plain rfl rfl (w_lsl_lom rfl Try.underlying151 Try.sizeOf155 (ev_tmp rfl) (ev_tmp rfl) (by first | omega | ((try simp only [List.length_map, List.length_take, List.length_cons, List.length_nil, chunks_len, szR] at *); omega) | (have hc2 := hc; simp only [Bool.and_eq_true, Bool.or_eq_true, Bool.or_eq_false_iff, Bool.and_eq_false_iff, Bool.not_eq_true', Bool.not_eq_false', decide_eq_true_eq, decide_eq_false_iff_not, beq_iff_eq, bne_iff_ne, List.length_map, List.length_take] at hc2; omega)) (by first | omega | ((try simp only [List.length_map, List.length_take, List.length_cons, List.length_nil, chunks_len, szR] at *); omega) | (have hc2 := hc; simp only [Bool.and_eq_true, Bool.or_eq_true, Bool.or_eq_false_iff, Bool.and_eq_false_iff, Bool.not_eq_true', Bool.not_eq_false', decide_eq_true_eq, decide_eq_false_iff_not, beq_iff_eq, bne_iff_ne, List.length_map, List.length_take] at hc2; omega))) ?_
          refine ch_plain rfl rfl (w_call rfl Try.call231 rfl (cloneVerL_spec _ (by first | assumption | (rw [List.length_drop]; omega) | omega)) (evl_cons (ev_tmp rfl) evl_nil)) ?_
          refine ch_plain rfl rfl (w_build (places := #[(0, 1), (1, 1)]) rfl Try.underlying153 Try.zeroValue153 (fun w => by kernel_rfl) rfl (bp_cons (ev_tmp rfl) (as_str _) (bp_cons (ev_tmp rfl) (as_list _ _) bp_nil)) rfl) ?_
          refine ch_plain rfl rfl (w_bslice rfl Try.underlying53 Try.sizeOf153 Try.zeroValue153 rfl rfl rfl rfl (bp_cons (ev_tmp rfl) (as_agg _) bp_nil) rfl rfl) ?_
          refine ch_nil ?_
          refine sq_append (by' := 40) 2 rfl rfl rfl rfl Try.underlying53 Try.type153 rfl rfl rfl rfl rfl rfl (ev_tmp rfl) (ev_tmp rfl) rfl (by rw [List.length_map, chunks_len]; omega) ?_
          intro v63_1
          refine sq_plain rfl rfl rfl (w_assign rfl (ev_tmp rfl)) ?_
          refine sq_nil ?_
          refine awp_region ?_
          refine sq_plain rfl rfl rfl (w_addi rfl (ev_tmp rfl) ev_ci (by first | omega | ((try simp only [List.length_map, List.length_take, List.length_cons, List.length_nil, chunks_len, szR] at *); omega) | (have hc2 := hc; simp only [Bool.and_eq_true, Bool.or_eq_true, Bool.or_eq_false_iff, Bool.and_eq_false_iff, Bool.not_eq_true', Bool.not_eq_false', decide_eq_true_eq, decide_eq_false_iff_not, beq_iff_eq, bne_iff_ne, List.length_map, List.length_take] at hc2; omega))) ?_
          refine sq_plain rfl rfl rfl (w_move rfl (ev_tmp rfl)) ?_
          refine sq_nil ?_
          refine round_end2 i v (i + 1) (v63_1) ?_ ?_ (Le.trans (le_pick [0, 0, 0] rfl) (le_dropeq 2 (by exact congrArg (fun z => [Own.arr _ 153 2 z]) hout) ⟨rfl, rfl, rfl, rfl, rfl, rfl, trivial⟩))
          · omega
          · omega
        · intro h52
          have k52 := of_decide_eq_false h52; try simp only [List.length_map] at k52
          have hpos : ¬ 0 < (trimV f x.Vers).length := by (unfold trimV; rw [List.length_drop]; omega)
          have hout : (trimR (l.take i) f).map TCell.cs = (trimR (l.take (i + 1)) f).map TCell.cs := by (unfold trimR; rw [hst, if_neg hpos, List.append_nil])
          refine awp_skip ?_
          refine awp_region ?_
          refine sq_plain rfl rfl rfl (w_addi rfl (ev_tmp rfl) ev_ci (by first | omega | ((try simp only [List.length_map, List.length_take, List.length_cons, List.length_nil, chunks_len, szR] at *); omega) | (have hc2 := hc; simp only [Bool.and_eq_true, Bool.or_eq_true, Bool.or_eq_false_iff, Bool.and_eq_false_iff, Bool.not_eq_true', Bool.not_eq_false', decide_eq_true_eq, decide_eq_false_iff_not, beq_iff_eq, bne_iff_ne, List.length_map, List.length_take] at hc2; omega))) ?_
          refine sq_plain rfl rfl rfl (w_move rfl (ev_tmp rfl)) ?_
          refine sq_nil ?_
          refine round_end2 i v (i + 1) (v) ?_ ?_ (Le.trans (le_pick [0, 0, 0] rfl) (le_dropeq 2 (by exact congrArg (fun z => [Own.arr _ 153 2 z]) hout) ⟨rfl, rfl, rfl, rfl, rfl, rfl, trivial⟩))
          · omega
          · omega
      · intro h45
        have hfr : firstR x.Vers f = b := by (unfold firstR; rw [hlf, hz]; dsimp only; rw [if_neg (by rw [h45]; decide)]; rfl)
        refine awp_skip ?_
        refine awp_seq ?_
        refine awp_region ?_
        refine sq_plain rfl rfl rfl (w_move rfl (ev_tmp rfl)) ?_
        refine sq_plain rfl rfl rfl (w_fldBn 1 rfl Try.underlying153 rfl Try.sizeOf151 (ev_tmp rfl) rfl) ?_
        refine sq_plain rfl rfl rfl (w_loadB1 1 rfl (ev_tmp rfl) rfl Try.isAgg151 rfl) ?_
        refine sq_plain rfl rfl rfl (w_llen rfl Try.underlying151 (ev_tmp rfl)) ?_
        refine sq_plain rfl rfl rfl (w_lss rfl (ev_tmp rfl) (ev_tmp rfl)) ?_
        refine sq_nil ?_
        refine awp_cond (ev_tmp rfl) ?_ ?_
        · intro h52
          have k52 := of_decide_eq_true h52; try simp only [List.length_map] at k52
          have hpos : 0 < (trimV f x.Vers).length := by (unfold trimV; rw [List.length_drop]; omega)
          have hout : (trimR (l.take i) f).map TCell.cs ++ [TCell.cs ⟨x.Key, trimV f x.Vers⟩] = (trimR (l.take (i + 1)) f).map TCell.cs := by (unfold trimR; rw [hst, if_pos hpos])
          rw [show trimV f x.Vers = x.Vers.drop (firstR x.Vers f) from rfl, hfr] at hout
          refine awp_region_tail 10 (by kernel_rfl) (by kernel_rfl) rfl ?_
          refine ch_plain rfl rfl (w_move rfl (ev_tmp rfl)) ?_
          refine ch_plain rfl rfl (w_fldBn 0 rfl Try.underlying153 rfl Try.sizeOf9 (ev_tmp rfl) rfl) ?_
          refine ch_plain rfl rfl (w_loadB1 1 rfl (ev_tmp rfl) rfl Try.isAgg9 rfl) ?_
          refine ch_plain rfl rfl (w_fldBn 1 rfl Try.underlying153 rfl Try.sizeOf151 (ev_tmp rfl) rfl) ?_
          refine ch_plain rfl rfl (w_loadB1 1 rfl (ev_tmp rfl) rfl Try.isAgg151 rfl) ?_
          refine ch_plain rfl rfl (w_move rfl (ev_tmp rfl)) ?_
          refine ch_plain rfl rfl (w_lsl_lom rfl Try.underlying151 Try.sizeOf155 (ev_tmp rfl) (ev_tmp rfl) (by first | omega | ((try simp only [List.length_map, List.length_take, List.length_cons, List.length_nil, chunks_len, szR] at *); omega) | (have hc2 := hc; simp only [Bool.and_eq_true, Bool.or_eq_true, Bool.or_eq_false_iff, Bool.and_eq_false_iff, Bool.not_eq_true', Bool.not_eq_false', decide_eq_true_eq, decide_eq_false_iff_not, beq_iff_eq, bne_iff_ne, List.length_map, List.length_take] at hc2; omega)) (by first | omega | ((try simp only [List.length_map, List.length_take, List.length_cons, List.length_nil, chunks_len, szR] at *); omega) | (have hc2 := hc; simp only [Bool.and_eq_true, Bool.or_eq_true, Bool.or_eq_false_iff, Bool.and_eq_false_iff, Bool.not_eq_true', Bool.not_eq_false', decide_eq_true_eq, decide_eq_false_iff_not, beq_iff_eq, bne_iff_ne, List.length_map, List.length_take] at hc2; omega))) ?_
          refine ch_plain rfl rfl (w_call rfl Try.call231 rfl (cloneVerL_spec _ (by first | assumption | (rw [List.length_drop]; omega) | omega)) (evl_cons (ev_tmp rfl) evl_nil)) ?_
          refine ch_plain rfl rfl (w_build (places := #[(0, 1), (1, 1)]) rfl Try.underlying153 Try.zeroValue153 (fun w => by kernel_rfl) rfl (bp_cons (ev_tmp rfl) (as_str _) (bp_cons (ev_tmp rfl) (as_list _ _) bp_nil)) rfl) ?_
          refine ch_plain rfl rfl (w_bslice rfl Try.underlying53 Try.sizeOf153 Try.zeroValue153 rfl rfl rfl rfl (bp_cons (ev_tmp rfl) (as_agg _) bp_nil) rfl rfl) ?_
          refine ch_nil ?_
          refine sq_append (by' := 40) 2 rfl rfl rfl rfl Try.underlying53 Try.type153 rfl rfl rfl rfl rfl rfl (ev_tmp rfl) (ev_tmp rfl) rfl (by rw [List.length_map, chunks_len]; omega) ?_
          intro v63_2
          refine sq_plain rfl rfl rfl (w_assign rfl (ev_tmp rfl)) ?_
          refine sq_nil ?_
          refine awp_region ?_
          refine sq_plain rfl rfl rfl (w_addi rfl (ev_tmp rfl) ev_ci (by first | omega | ((try simp only [List.length_map, List.length_take, List.length_cons, List.length_nil, chunks_len, szR] at *); omega) | (have hc2 := hc; simp only [Bool.and_eq_true, Bool.or_eq_true, Bool.or_eq_false_iff, Bool.and_eq_false_iff, Bool.not_eq_true', Bool.not_eq_false', decide_eq_true_eq, decide_eq_false_iff_not, beq_iff_eq, bne_iff_ne, List.length_map, List.length_take] at hc2; omega))) ?_
          refine sq_plain rfl rfl rfl (w_move rfl (ev_tmp rfl)) ?_
          refine sq_nil ?_
          refine round_end2 i v (i + 1) (v63_2) ?_ ?_ (Le.trans (le_pick [0, 0, 0] rfl) (le_dropeq 2 (by exact congrArg (fun z => [Own.arr _ 153 2 z]) hout) ⟨rfl, rfl, rfl, rfl, rfl, rfl, trivial⟩))
          · omega
          · omega
        · intro h52
          have k52 := of_decide_eq_false h52; try simp only [List.length_map] at k52
          have hpos : ¬ 0 < (trimV f x.Vers).length := by (unfold trimV; rw [List.length_drop]; omega)
          have hout : (trimR (l.take i) f).map TCell.cs = (trimR (l.take (i + 1)) f).map TCell.cs := by (unfold trimR; rw [hst, if_neg hpos, List.append_nil])
          refine awp_skip ?_
          refine awp_region ?_
          refine sq_plain rfl rfl rfl (w_addi rfl (ev_tmp rfl) ev_ci (by first | omega | ((try simp only [List.length_map, List.length_take, List.length_cons, List.length_nil, chunks_len, szR] at *); omega) | (have hc2 := hc; simp only [Bool.and_eq_true, Bool.or_eq_true, Bool.or_eq_false_iff, Bool.and_eq_false_iff, Bool.not_eq_true', Bool.not_eq_false', decide_eq_true_eq, decide_eq_false_iff_not, beq_iff_eq, bne_iff_ne, List.length_map, List.length_take] at hc2; omega))) ?_
          refine sq_plain rfl rfl rfl (w_move rfl (ev_tmp rfl)) ?_
          refine sq_nil ?_
          refine round_end2 i v (i + 1) (v) ?_ ?_ (Le.trans (le_pick [0, 0, 0] rfl) (le_dropeq 2 (by exact congrArg (fun z => [Own.arr _ 153 2 z]) hout) ⟨rfl, rfl, rfl, rfl, rfl, rfl, trivial⟩))
          · omega
          · omega
  · intro h16
    have k16 := of_decide_eq_false h16; try simp only [List.length_map] at k16
    have hge : l.length ≤ i := by omega
    rw [List.take_of_length_le hge]
    refine awp_exit ?_
    refine awp_seq ?_
    refine awp_region ?_
    refine sq_plain rfl rfl rfl (w_move rfl (ev_tmp rfl)) ?_
    refine sq_plain rfl rfl rfl (w_assign rfl (ev_tmp rfl)) ?_
    refine sq_nil ?_
    refine awp_ret ?_
    refine ret_seal 0 4 rfl rfl ?_
    exact retR rfl (rv_tmp' rfl (by rfl))
theorem trimS_spec (l : List TCell) (f : Int) (hs : sizeL TCell.size l ≤ 1048576) : FSpec Try.prog 145 [AV.list 2 (l.map TCell.cs), AV.int f] (AV.list 2 ((trimS l f).map TCell.cs)) := by
  have hl : l.length ≤ 1048576 := Nat.le_trans sizeL_len hs
  refine spec_of_awp Try.func145 rfl Try.ntmps145 rfl ?_
  refine awp_seq ?_
  refine awp_region ?_
  refine sq_plain rfl rfl rfl (w_assign rfl (ev_cnil (sz := 2))) ?_
  refine sq_nil ?_
  refine awp_seq ?_
  refine awp_region ?_
  refine sq_nilarr 153 2 rfl rfl rfl rfl ev_cnils ?_
  intro v5
  refine sq_nil ?_
  refine awp_seq ?_
  refine awp_seq ?_
  refine awp_region ?_
  refine sq_plain rfl rfl rfl (w_move rfl (ev_tmp rfl)) ?_
  refine sq_plain rfl rfl rfl (w_llen rfl Try.underlying53 (ev_tmp rfl)) ?_
  refine sq_plain rfl rfl rfl (w_move rfl ev_ci) ?_
  refine sq_nil ?_
  refine awp_block ?_
  refine awp_loop_i2 [(1, _), (4, _), (12, _), (13, _)] _ (fun (i : Nat) (v : Value) => i ≤ l.length) (fun (i : Nat) (v : Value) => [.arr v 153 2 ((trimS (l.take i) f).map TCell.cs)]) (fun (i : Nat) (v : Value) => [(5, AV.is v), (14, AV.int i)]) (fun (i : Nat) (v : Value) => l.length - i) (0) (v5) ?_ (le_eq (by rfl) ⟨rfl, rfl, rfl, rfl, rfl, rfl, trivial⟩) ?_
  · exact Nat.zero_le _
  intro i v hinv
  refine awp_seq ?_
  refine awp_region ?_
  refine sq_plain rfl rfl rfl (w_lss rfl (ev_tmp rfl) (ev_tmp rfl)) ?_
  refine sq_nil ?_
  refine awp_seq ?_
  refine awp_cond (ev_tmp rfl) ?_ ?_
  · intro h15
    have k15 := of_decide_eq_true h15; try simp only [List.length_map] at k15
    have hlt : i < l.length := by omega
    obtain ⟨x, hx⟩ := get_some hlt
    have hcl := (cell_len (Nat.le_trans (sizeL_get hx) hs)).2.1
    have hst := trimBy_step (g := keepF f) hx
    have htl : (trimS (l.take i) f).length ≤ i := (by have h9 := trimBy_len (keepF f) (l.take i); rw [List.length_take] at h9; unfold trimS; omega)
    have hinv0 := hinv; clear hinv
    refine awp_skip ?_
    refine awp_seq ?_
    refine awp_block ?_
    refine awp_seq ?_
    refine awp_region ?_
    refine sq_plain rfl rfl rfl (w_idxm rfl Try.underlying53 Try.sizeOf153 (ev_tmp rfl) (ev_tmp rfl) hx (by first | omega | ((try simp only [List.length_map, List.length_take, List.length_cons, List.length_nil, chunks_len, szR] at *); omega) | (have hc2 := hc; simp only [Bool.and_eq_true, Bool.or_eq_true, Bool.or_eq_false_iff, Bool.and_eq_false_iff, Bool.not_eq_true', Bool.not_eq_false', decide_eq_true_eq, decide_eq_false_iff_not, beq_iff_eq, bne_iff_ne, List.length_map, List.length_take] at hc2; omega))) ?_
    refine sq_plain rfl rfl rfl (w_loadE rfl (ev_tmp rfl) Try.isAgg153 Try.sizeOf153) ?_
    refine sq_alloc rfl rfl rfl rfl Try.zeroValue153 rfl ?_
    intro b7
    refine sq_storeB0 0 rfl rfl rfl (ev_tmp rfl) (ev_tmp rfl) (as_agg _) rfl Try.sizeOf153 rfl ?_
    refine sq_nil ?_
    refine awp_seq ?_
    refine awp_region ?_
    refine sq_nilarr 155 3 rfl rfl rfl rfl ev_cnils ?_
    intro v8
    refine sq_nil ?_
    refine awp_seq ?_
    refine awp_seq ?_
    refine awp_region ?_
    refine sq_plain rfl rfl rfl (w_fldBn 1 rfl Try.underlying153 rfl Try.sizeOf151 (ev_tmp rfl) rfl) ?_
    refine sq_plain rfl rfl rfl (w_loadB1 1 rfl (ev_tmp rfl) rfl Try.isAgg151 rfl) ?_
    refine sq_plain rfl rfl rfl (w_llen rfl Try.underlying151 (ev_tmp rfl)) ?_
    refine sq_plain rfl rfl rfl (w_move rfl ev_ci) ?_
    refine sq_nil ?_
    refine awp_block ?_
    refine awp_loop_i3 [(1, _), (4, _), (5, _), (7, _), (12, _), (13, _), (14, _), (15, _), (16, _), (17, _), (18, _), (19, _), (20, _)] _ (fun (j : Nat) (ks : List TVer) (u : Value) => j ≤ x.Vers.length ∧ keepF f x.Vers = ks ++ keepF f (x.Vers.drop j) ∧ ks.length ≤ j) (fun (j : Nat) (ks : List TVer) (u : Value) => [.arr u 155 3 (ks.map TVer.cs)]) (fun (j : Nat) (ks : List TVer) (u : Value) => [(8, AV.is u), (21, AV.int j)]) (fun (j : Nat) (ks : List TVer) (u : Value) => x.Vers.length - j) (0) ([]) (v8) ?_ (le_eq (by rfl) ⟨rfl, rfl, rfl, rfl, rfl, rfl, rfl, rfl, rfl, rfl, rfl, rfl, rfl, rfl, rfl, trivial⟩) ?_
    · exact ⟨Nat.zero_le _, rfl, Nat.le_refl _⟩
    intro j ks u hinv
    refine awp_seq ?_
    refine awp_region ?_
    refine sq_plain rfl rfl rfl (w_lss rfl (ev_tmp rfl) (ev_tmp rfl)) ?_
    refine sq_nil ?_
    refine awp_seq ?_
    refine awp_cond (ev_tmp rfl) ?_ ?_
    · intro h22
      have k22 := of_decide_eq_true h22; try simp only [List.length_map] at k22
      have hlt2 : j < x.Vers.length := by omega
      obtain ⟨y, hy⟩ := get_some hlt2
      obtain ⟨w, hw⟩ := get_any x.Vers (j + 1)
      have hlat : (decide ((j : Int) + 1 < (x.Vers.length : Int)) && decide (w.Time ≤ f)) = headLe f (x.Vers.drop (j + 1)) := by (rw [headLe_drop]; by_cases h9 : j + 1 < x.Vers.length; (rw [hw h9, decide_eq_true (by omega), Bool.true_and]); (rw [List.getElem?_eq_none (by omega), decide_eq_false (by omega), Bool.false_and]))
      refine awp_skip ?_
      refine awp_seq ?_
      refine awp_block ?_
      refine awp_seq ?_
      refine awp_region ?_
      refine sq_plain rfl rfl rfl (w_move rfl (ev_tmp rfl)) ?_
      refine sq_plain rfl rfl rfl (w_idxm rfl Try.underlying151 Try.sizeOf155 (ev_tmp rfl) (ev_tmp rfl) hy (by first | omega | ((try simp only [List.length_map, List.length_take, List.length_cons, List.length_nil, chunks_len, szR] at *); omega) | (have hc2 := hc; simp only [Bool.and_eq_true, Bool.or_eq_true, Bool.or_eq_false_iff, Bool.and_eq_false_iff, Bool.not_eq_true', Bool.not_eq_false', decide_eq_true_eq, decide_eq_false_iff_not, beq_iff_eq, bne_iff_ne, List.length_map, List.length_take] at hc2; omega))) ?_
      refine sq_plain rfl rfl rfl (w_loadE rfl (ev_tmp rfl) Try.isAgg155 Try.sizeOf155) ?_
      refine sq_alloc rfl rfl rfl rfl Try.zeroValue155 rfl ?_
      intro b10
      refine sq_plain rfl rfl rfl (w_assign rfl (ev_tmp rfl)) ?_
      refine sq_storeB0 0 rfl rfl rfl (ev_tmp rfl) (ev_tmp rfl) (as_agg _) rfl Try.sizeOf155 rfl ?_
      refine sq_nil ?_
      refine awp_seq ?_
      refine awp_region ?_
      refine sq_plain rfl rfl rfl (w_move rfl (ev_tmp rfl)) ?_
      refine sq_plain rfl rfl rfl (w_addi rfl (ev_tmp rfl) ev_ci (by first | omega | ((try simp only [List.length_map, List.length_take, List.length_cons, List.length_nil, chunks_len, szR] at *); omega) | (have hc2 := hc; simp only [Bool.and_eq_true, Bool.or_eq_true, Bool.or_eq_false_iff, Bool.and_eq_false_iff, Bool.not_eq_true', Bool.not_eq_false', decide_eq_true_eq, decide_eq_false_iff_not, beq_iff_eq, bne_iff_ne, List.length_map, List.length_take] at hc2; omega))) ?_
      refine sq_plain rfl rfl rfl (w_fldBn 1 rfl Try.underlying153 rfl Try.sizeOf151 (ev_tmp rfl) rfl) ?_
      refine sq_plain rfl rfl rfl (w_loadB1 2 rfl (ev_tmp rfl) rfl Try.isAgg151 rfl) ?_
      refine sq_plain rfl rfl rfl (w_llen rfl Try.underlying151 (ev_tmp rfl)) ?_
      refine sq_plain rfl rfl rfl (w_lss rfl (ev_tmp rfl) (ev_tmp rfl)) ?_
      refine sq_plain rfl rfl rfl (w_move rfl (ev_tmp rfl)) ?_
      refine sq_grd rfl rfl (guard_t rfl rfl rfl) (fun hc => w_fldBn 1 rfl Try.underlying153 rfl Try.sizeOf151 (ev_tmp rfl) rfl) ?_
      refine sq_grd rfl rfl (guard_t rfl rfl rfl) (fun hc => w_loadB1 2 rfl (ev_whn rfl hc) rfl Try.isAgg151 rfl) ?_
      refine sq_grd rfl rfl (guard_t rfl rfl rfl) (fun hc => w_move rfl (ev_tmp rfl)) ?_
      refine sq_grd rfl rfl (guard_t rfl rfl rfl) (fun hc => w_addi rfl (ev_whn rfl hc) ev_ci (by first | omega | ((try simp only [List.length_map, List.length_take, List.length_cons, List.length_nil, chunks_len, szR] at *); omega) | (have hc2 := hc; simp only [Bool.and_eq_true, Bool.or_eq_true, Bool.or_eq_false_iff, Bool.and_eq_false_iff, Bool.not_eq_true', Bool.not_eq_false', decide_eq_true_eq, decide_eq_false_iff_not, beq_iff_eq, bne_iff_ne, List.length_map, List.length_take] at hc2; omega))) ?_
      refine sq_grd rfl rfl (guard_t rfl rfl rfl) (fun hc => w_idxm rfl Try.underlying151 Try.sizeOf155 (ev_whn rfl hc) (ev_whn rfl hc) (hw (by first | omega | ((try simp only [List.length_map, List.length_take, List.length_cons, List.length_nil, chunks_len, szR] at *); omega) | (have hc2 := hc; simp only [Bool.and_eq_true, Bool.or_eq_true, Bool.or_eq_false_iff, Bool.and_eq_false_iff, Bool.not_eq_true', Bool.not_eq_false', decide_eq_true_eq, decide_eq_false_iff_not, beq_iff_eq, bne_iff_ne, List.length_map, List.length_take] at hc2; omega))) (by first | omega | ((try simp only [List.length_map, List.length_take, List.length_cons, List.length_nil, chunks_len, szR] at *); omega) | (have hc2 := hc; simp only [Bool.and_eq_true, Bool.or_eq_true, Bool.or_eq_false_iff, Bool.and_eq_false_iff, Bool.not_eq_true', Bool.not_eq_false', decide_eq_true_eq, decide_eq_false_iff_not, beq_iff_eq, bne_iff_ne, List.length_map, List.length_take] at hc2; omega))) ?_
      refine sq_grd rfl rfl (guard_t rfl rfl rfl) (fun hc => w_fldE rfl Try.underlying155 rfl Try.sizeOf3 (ev_whn rfl hc) rfl) ?_
      refine sq_grd rfl rfl (guard_t rfl rfl rfl) (fun hc => w_loadE1 rfl (ev_whn rfl hc) Try.isAgg3 rfl) ?_
      refine sq_grd rfl rfl (guard_t rfl rfl rfl) (fun hc => w_move rfl (ev_tmp rfl)) ?_
      refine sq_grd rfl rfl (guard_t rfl rfl rfl) (fun hc => w_leq rfl (ev_whn rfl hc) (ev_whn rfl hc)) ?_
      refine sq_plain rfl rfl rfl (w_and rfl (ev_tmp rfl) (evif_w rfl)) ?_
      refine sq_plain rfl rfl rfl (w_assign rfl (ev_tmp rfl)) ?_
      refine sq_nil ?_
      refine awp_seq ?_
      refine awp_region ?_
      refine sq_plain rfl rfl rfl (w_fldBn 0 rfl Try.underlying155 rfl Try.sizeOf3 (ev_tmp rfl) rfl) ?_
      refine sq_plain rfl rfl rfl (w_loadB1 0 rfl (ev_tmp rfl) rfl Try.isAgg3 rfl) ?_
      refine sq_plain rfl rfl rfl (w_move rfl (ev_tmp rfl)) ?_
      refine sq_plain rfl rfl rfl (w_gtr rfl (ev_tmp rfl) (ev_tmp rfl)) ?_
      refine sq_plain rfl rfl rfl (w_move rfl (ev_tmp rfl)) ?_
      refine sq_grd rfl rfl (guard_f rfl rfl rfl) (fun hc => w_move rfl (ev_tmp rfl)) ?_
      refine sq_grd rfl rfl (guard_f rfl rfl rfl) (fun hc => w_not rfl (ev_whn rfl hc)) ?_
      refine sq_grd rfl rfl (guard_f rfl rfl rfl) (fun hc => w_move rfl (ev_whn rfl hc)) ?_
      refine sq_grd rfl rfl (guard_wt rfl rfl rfl) (fun hc => w_fldBn 2 rfl Try.underlying155 rfl Try.sizeOf4 (ev_tmp rfl) rfl) ?_
      refine sq_grd rfl rfl (guard_wt rfl rfl rfl) (fun hc => w_loadB1 0 rfl (ev_whn rfl hc) rfl Try.isAgg4 rfl) ?_
      refine sq_grd rfl rfl (guard_wt rfl rfl rfl) (fun hc => w_not rfl (ev_whn rfl hc)) ?_
      refine sq_grd rfl rfl (guard_f rfl rfl rfl) (fun hc => w_and rfl (ev_whn rfl hc) (evif_w2 rfl hc)) ?_
      refine sq_plain rfl rfl rfl (w_or rfl (ev_tmp rfl) (evif_w rfl)) ?_
      refine sq_nil ?_
      refine awp_cond (ev_tmp rfl) ?_ ?_
      · intro h55
        have h55' : (decide (f < y.Time) || (!headLe f (x.Vers.drop (j + 1)) && !y.Gone)) = true := by (rw [← hlat]; simpa only [List.length_map] using h55)
        refine awp_region ?_
        refine sq_plain rfl rfl rfl (w_move rfl (ev_tmp rfl)) ?_
        refine sq_plain rfl rfl rfl (w_loadA 0 rfl (ev_tmp rfl) rfl Try.isAgg155 Try.sizeOf155 rfl) ?_
        refine sq_plain rfl rfl rfl (w_bslice rfl Try.underlying151 Try.sizeOf155 Try.zeroValue155 rfl rfl rfl rfl (bp_cons (ev_tmp rfl) (as_agg _) bp_nil) rfl rfl) ?_
        refine sq_append (by' := 32) 1 rfl rfl rfl rfl Try.underlying151 Try.type155 rfl rfl rfl rfl rfl rfl (ev_tmp rfl) (ev_tmp rfl) rfl (by rw [List.length_map, chunks_len]; omega) ?_
        intro v59_1
        refine sq_plain rfl rfl rfl (w_assign rfl (ev_tmp rfl)) ?_
        refine sq_nil ?_
        refine awp_region ?_
        refine sq_plain rfl rfl rfl (w_addi rfl (ev_tmp rfl) ev_ci (by first | omega | ((try simp only [List.length_map, List.length_take, List.length_cons, List.length_nil, chunks_len, szR] at *); omega) | (have hc2 := hc; simp only [Bool.and_eq_true, Bool.or_eq_true, Bool.or_eq_false_iff, Bool.and_eq_false_iff, Bool.not_eq_true', Bool.not_eq_false', decide_eq_true_eq, decide_eq_false_iff_not, beq_iff_eq, bne_iff_ne, List.length_map, List.length_take] at hc2; omega))) ?_
        refine sq_plain rfl rfl rfl (w_move rfl (ev_tmp rfl)) ?_
        refine sq_nil ?_
        refine round_end3 j ks u (j + 1) (ks ++ [y]) (v59_1) ?_ ?_ (Le.trans (le_pick [0, 0] rfl) (le_dropeq 1 (by first | rfl | (rw [List.map_append]; rfl)) ⟨rfl, rfl, rfl, rfl, rfl, rfl, rfl, rfl, rfl, rfl, rfl, rfl, rfl, rfl, rfl, trivial⟩))
        · exact ⟨by omega, by have h9 := keepF_step hinv.2.1 hy; rwa [if_pos h55'] at h9, by rw [List.length_append, List.length_cons, List.length_nil]; omega⟩
        · omega
      · intro h55
        have h55' : (decide (f < y.Time) || (!headLe f (x.Vers.drop (j + 1)) && !y.Gone)) = false := by (rw [← hlat]; simpa only [List.length_map] using h55)
        refine awp_skip ?_
        refine awp_region ?_
        refine sq_plain rfl rfl rfl (w_addi rfl (ev_tmp rfl) ev_ci (by first | omega | ((try simp only [List.length_map, List.length_take, List.length_cons, List.length_nil, chunks_len, szR] at *); omega) | (have hc2 := hc; simp only [Bool.and_eq_true, Bool.or_eq_true, Bool.or_eq_false_iff, Bool.and_eq_false_iff, Bool.not_eq_true', Bool.not_eq_false', decide_eq_true_eq, decide_eq_false_iff_not, beq_iff_eq, bne_iff_ne, List.length_map, List.length_take] at hc2; omega))) ?_
        refine sq_plain rfl rfl rfl (w_move rfl (ev_tmp rfl)) ?_
        refine sq_nil ?_
        refine round_end3 j ks u (j + 1) (ks) (u) ?_ ?_ (Le.trans (le_pick [0, 0] rfl) (le_dropeq 1 (by first | rfl | (rw [List.map_append]; rfl)) ⟨rfl, rfl, rfl, rfl, rfl, rfl, rfl, rfl, rfl, rfl, rfl, rfl, rfl, rfl, rfl, trivial⟩))
        · exact ⟨by omega, by have h9 := keepF_step hinv.2.1 hy; rw [if_neg (by rw [h55']; decide), List.append_nil] at h9; exact h9, by omega⟩
        · omega
    · intro h22
      have k22 := of_decide_eq_false h22; try simp only [List.length_map] at k22
      have hge2 : x.Vers.length ≤ j := by omega
      have hks : keepF f x.Vers = ks := by (have h9 := hinv.2.1; rwa [List.drop_eq_nil_of_le hge2, keepF, List.append_nil] at h9)
      refine awp_exit ?_
      refine awp_seq ?_
      refine awp_region ?_
      refine sq_plain rfl rfl rfl (w_move rfl (ev_tmp rfl)) ?_
      refine sq_plain rfl rfl rfl (w_alen 0 rfl Try.underlying151 (ev_tmp rfl) rfl) ?_
      refine sq_plain rfl rfl rfl (w_gtr rfl (ev_tmp rfl) ev_ci) ?_
      refine sq_nil ?_
      refine awp_cond (ev_tmp rfl) ?_ ?_
      · intro h63
        have k63 := of_decide_eq_true h63; try simp only [List.length_map] at k63
        have hout : (trimS (l.take i) f).map TCell.cs ++ [TCell.cs ⟨x.Key, ks⟩] = (trimS (l.take (i + 1)) f).map TCell.cs := by (unfold trimS; rw [hst, hks, if_pos (by omega)])
        refine AWP.le (le_sealD [0] 8 rfl rfl (lt_arr (List.mem_of_getElem? (i := 0) rfl) le_refl_e) gin_false) ?_
        refine awp_region ?_
        refine sq_plain rfl rfl rfl (w_move rfl (ev_tmp rfl)) ?_
        refine sq_plain rfl rfl rfl (w_fldBn 0 rfl Try.underlying153 rfl Try.sizeOf9 (ev_tmp rfl) rfl) ?_
        refine sq_plain rfl rfl rfl (w_loadB1 0 rfl (ev_tmp rfl) rfl Try.isAgg9 rfl) ?_
        refine sq_plain rfl rfl rfl (w_move rfl (ev_tmp rfl)) ?_
        refine sq_plain rfl rfl rfl (w_build (places := #[(0, 1), (1, 1)]) rfl Try.underlying153 Try.zeroValue153 (fun w => by kernel_rfl) rfl (bp_cons (ev_tmp rfl) (as_str _) (bp_cons (ev_tmp rfl) (as_list _ _) bp_nil)) rfl) ?_
        refine sq_plain rfl rfl rfl (w_bslice rfl Try.underlying53 Try.sizeOf153 Try.zeroValue153 rfl rfl rfl rfl (bp_cons (ev_tmp rfl) (as_agg _) bp_nil) rfl rfl) ?_
        refine sq_append (by' := 40) 1 rfl rfl rfl rfl Try.underlying53 Try.type153 rfl rfl rfl rfl rfl rfl (ev_tmp rfl) (ev_tmp rfl) rfl (by rw [List.length_map, chunks_len]; omega) ?_
        intro v70_2
        refine sq_plain rfl rfl rfl (w_assign rfl (ev_tmp rfl)) ?_
        refine sq_nil ?_
        refine awp_region ?_
        refine sq_plain rfl rfl rfl (w_addi rfl (ev_tmp rfl) ev_ci (by first | omega | ((try simp only [List.length_map, List.length_take, List.length_cons, List.length_nil, chunks_len, szR] at *); omega) | (have hc2 := hc; simp only [Bool.and_eq_true, Bool.or_eq_true, Bool.or_eq_false_iff, Bool.and_eq_false_iff, Bool.not_eq_true', Bool.not_eq_false', decide_eq_true_eq, decide_eq_false_iff_not, beq_iff_eq, bne_iff_ne, List.length_map, List.length_take] at hc2; omega))) ?_
        refine sq_plain rfl rfl rfl (w_move rfl (ev_tmp rfl)) ?_
        refine sq_nil ?_
        refine round_end2 i v (i + 1) (v70_2) ?_ ?_ (Le.trans (le_pick [0, 0] rfl) (le_dropeq 1 (by exact congrArg (fun z => [Own.arr _ 153 2 z]) hout) ⟨rfl, rfl, rfl, rfl, rfl, rfl, trivial⟩))
        · omega
        · omega
      · intro h63
        have k63 := of_decide_eq_false h63; try simp only [List.length_map] at k63
        have hout : (trimS (l.take i) f).map TCell.cs = (trimS (l.take (i + 1)) f).map TCell.cs := by (unfold trimS; rw [hst, hks, if_neg (by omega), List.append_nil])
        refine awp_skip ?_
        refine awp_region ?_
        refine sq_plain rfl rfl rfl (w_addi rfl (ev_tmp rfl) ev_ci (by first | omega | ((try simp only [List.length_map, List.length_take, List.length_cons, List.length_nil, chunks_len, szR] at *); omega) | (have hc2 := hc; simp only [Bool.and_eq_true, Bool.or_eq_true, Bool.or_eq_false_iff, Bool.and_eq_false_iff, Bool.not_eq_true', Bool.not_eq_false', decide_eq_true_eq, decide_eq_false_iff_not, beq_iff_eq, bne_iff_ne, List.length_map, List.length_take] at hc2; omega))) ?_
        refine sq_plain rfl rfl rfl (w_move rfl (ev_tmp rfl)) ?_
        refine sq_nil ?_
        refine round_end2 i v (i + 1) (v) ?_ ?_ (Le.trans (le_pick [0, 0, 0] rfl) (le_dropeq 2 (by exact congrArg (fun z => [Own.arr _ 153 2 z]) hout) ⟨rfl, rfl, rfl, rfl, rfl, rfl, trivial⟩))
        · omega
        · omega
  · intro h15
    have k15 := of_decide_eq_false h15; try simp only [List.length_map] at k15
    have hge : l.length ≤ i := by omega
    rw [List.take_of_length_le hge]
    refine awp_exit ?_
    refine awp_seq ?_
    refine awp_region ?_
    refine sq_plain rfl rfl rfl (w_move rfl (ev_tmp rfl)) ?_
    refine sq_plain rfl rfl rfl (w_assign rfl (ev_tmp rfl)) ?_
    refine sq_nil ?_
    refine awp_ret ?_
    refine ret_seal 0 4 rfl rfl ?_
    exact retR rfl (rv_tmp' rfl (by rfl))
theorem trimCellsR_spec (l : List TCell) (f : Int) (hs : sizeL TCell.size l ≤ 1048576) : FSpec Try.prog 46 [AV.list 2 (l.map TCell.cs), AV.int f] (AV.tup [AV.list 2 ((trimCellsR l f).1.map TCell.cs), AV.bool (trimCellsR l f).2]) := by
  refine spec_of_awp Try.func46 rfl Try.ntmps46 rfl ?_
  refine awp_seq ?_
  refine awp_region ?_
  refine sq_plain rfl rfl rfl (w_assign rfl (ev_cnil (sz := 2))) ?_
  refine sq_plain rfl rfl rfl (w_assign rfl ev_cb) ?_
  refine sq_nil ?_
  refine awp_seq ?_
  refine awp_seq ?_
  refine awp_region ?_
  refine sq_plain rfl rfl rfl (w_move rfl (ev_tmp rfl)) ?_
  refine sq_plain rfl rfl rfl (w_call rfl Try.call49 rfl (goodCells_spec _ (by first | assumption | omega)) (evl_cons (ev_tmp rfl) evl_nil)) ?_
  refine sq_plain rfl rfl rfl (w_not rfl (ev_tmp rfl)) ?_
  refine sq_plain rfl rfl rfl (w_move rfl (ev_tmp rfl)) ?_
  refine sq_grd rfl rfl (guard_f rfl rfl rfl) (fun hc => w_move rfl (ev_tmp rfl)) ?_
  refine sq_grd rfl rfl (guard_f rfl rfl rfl) (fun hc => w_call rfl Try.call141 rfl (isTrue_spec _) (evl_cons (ev_whn rfl hc) evl_nil)) ?_
  refine sq_grd rfl rfl (guard_f rfl rfl rfl) (fun hc => w_not rfl (ev_whn rfl hc)) ?_
  refine sq_plain rfl rfl rfl (w_or rfl (ev_tmp rfl) (evif_w rfl)) ?_
  refine sq_nil ?_
  refine awp_cond (ev_tmp rfl) ?_ ?_
  · intro h13
    have he : trimCellsR l f = ([], false) := by (unfold trimCellsR; rw [if_pos h13])
    rw [he]
    refine awp_seq ?_
    refine awp_region ?_
    refine sq_plain rfl rfl rfl (w_assign rfl (ev_cnil (sz := 2))) ?_
    refine sq_plain rfl rfl rfl (w_assign rfl ev_cb) ?_
    refine sq_nil ?_
    refine awp_ret ?_
    exact retN rfl (by decide) (rv_cons (rv_tmp' rfl (by rfl)) (rv_cons (rv_tmp' rfl (by rfl)) rv_nil))
  · intro h13
    have hg := h13
    simp only [Bool.or_eq_false_iff, Bool.not_eq_false'] at hg
    have hgc := hg.1
    have he : trimCellsR l f = (trimR l f, true) := by (unfold trimCellsR; rw [if_neg (by rw [h13]; decide)])
    rw [he]
    refine awp_skip ?_
    refine awp_seq ?_
    refine awp_region ?_
    refine sq_plain rfl rfl rfl (w_move rfl (ev_tmp rfl)) ?_
    refine sq_plain rfl rfl rfl (w_move rfl (ev_tmp rfl)) ?_
    refine sq_plain rfl rfl rfl (w_call rfl Try.call142 rfl (trimR_spec _ _ (by first | assumption | omega) (by first | assumption | omega)) (evl_cons (ev_tmp rfl) (evl_cons (ev_tmp rfl) evl_nil))) ?_
    refine sq_plain rfl rfl rfl (w_assign rfl (ev_tmp rfl)) ?_
    refine sq_plain rfl rfl rfl (w_assign rfl ev_cb) ?_
    refine sq_nil ?_
    refine awp_ret ?_
    exact retN rfl (by decide) (rv_cons (rv_tmp' rfl (by rfl)) (rv_cons (rv_tmp' rfl (by rfl)) rv_nil))
theorem trimCellsS_spec (l : List TCell) (f : Int) (hs : sizeL TCell.size l ≤ 1048576) : FSpec Try.prog 47 [AV.list 2 (l.map TCell.cs), AV.int f] (AV.tup [AV.list 2 ((trimCellsS l f).1.map TCell.cs), AV.bool (trimCellsS l f).2]) := by
  refine spec_of_awp Try.func47 rfl Try.ntmps47 rfl ?_
  refine awp_seq ?_
  refine awp_region ?_
  refine sq_plain rfl rfl rfl (w_assign rfl (ev_cnil (sz := 2))) ?_
  refine sq_plain rfl rfl rfl (w_assign rfl ev_cb) ?_
  refine sq_nil ?_
  refine awp_seq ?_
  refine awp_seq ?_
  refine awp_region ?_
  refine sq_plain rfl rfl rfl (w_move rfl (ev_tmp rfl)) ?_
  refine sq_plain rfl rfl rfl (w_call rfl Try.call143 rfl (l3Good_spec _ (by first | assumption | omega)) (evl_cons (ev_tmp rfl) evl_nil)) ?_
  refine sq_plain rfl rfl rfl (w_not rfl (ev_tmp rfl)) ?_
  refine sq_plain rfl rfl rfl (w_move rfl (ev_tmp rfl)) ?_
  refine sq_grd rfl rfl (guard_f rfl rfl rfl) (fun hc => w_move rfl (ev_tmp rfl)) ?_
  refine sq_grd rfl rfl (guard_f rfl rfl rfl) (fun hc => w_call rfl Try.call144 rfl (l2True_spec _) (evl_cons (ev_whn rfl hc) evl_nil)) ?_
  refine sq_grd rfl rfl (guard_f rfl rfl rfl) (fun hc => w_not rfl (ev_whn rfl hc)) ?_
  refine sq_plain rfl rfl rfl (w_or rfl (ev_tmp rfl) (evif_w rfl)) ?_
  refine sq_nil ?_
  refine awp_cond (ev_tmp rfl) ?_ ?_
  · intro h13
    have he : trimCellsS l f = ([], false) := by (unfold trimCellsS; rw [if_pos h13])
    rw [he]
    refine awp_seq ?_
    refine awp_region ?_
    refine sq_plain rfl rfl rfl (w_assign rfl (ev_cnil (sz := 2))) ?_
    refine sq_plain rfl rfl rfl (w_assign rfl ev_cb) ?_
    refine sq_nil ?_
    refine awp_ret ?_
    exact retN rfl (by decide) (rv_cons (rv_tmp' rfl (by rfl)) (rv_cons (rv_tmp' rfl (by rfl)) rv_nil))
  · intro h13
    have he : trimCellsS l f = (trimS l f, true) := by (unfold trimCellsS; rw [if_neg (by rw [h13]; decide)])
    rw [he]
    refine awp_skip ?_
    refine awp_seq ?_
    refine awp_region ?_
    refine sq_plain rfl rfl rfl (w_move rfl (ev_tmp rfl)) ?_
    refine sq_plain rfl rfl rfl (w_move rfl (ev_tmp rfl)) ?_
    refine sq_plain rfl rfl rfl (w_call rfl Try.call145 rfl (trimS_spec _ _ (by first | assumption | omega)) (evl_cons (ev_tmp rfl) (evl_cons (ev_tmp rfl) evl_nil))) ?_
    refine sq_plain rfl rfl rfl (w_assign rfl (ev_tmp rfl)) ?_
    refine sq_plain rfl rfl rfl (w_assign rfl ev_cb) ?_
    refine sq_nil ?_
    refine awp_ret ?_
    exact retN rfl (by decide) (rv_cons (rv_tmp' rfl (by rfl)) (rv_cons (rv_tmp' rfl (by rfl)) rv_nil))
theorem goodValS_spec (s : Str) (hs : s.length ≤ 4611686018427387904) : FSpec Try.prog 57 [AV.str s] (AV.bool (l3Val s)) := by
  refine spec_of_awp Try.func57 rfl Try.ntmps57 rfl ?_
  refine awp_seq ?_
  refine awp_region ?_
  refine sq_plain rfl rfl rfl (w_assign rfl ev_cb) ?_
  refine sq_nil ?_
  refine awp_seq ?_
  refine awp_region ?_
  refine sq_plain rfl rfl rfl (w_move rfl (ev_tmp rfl)) ?_
  refine sq_plain rfl rfl rfl (w_call rfl Try.call153 rfl (l3Val_spec _ (by omega)) (evl_cons (ev_tmp rfl) evl_nil)) ?_
  refine sq_plain rfl rfl rfl (w_assign rfl (ev_tmp rfl)) ?_
  refine sq_nil ?_
  refine awp_ret ?_
  exact retR rfl (rv_tmp' rfl (by first | rfl | (refine congrArg AV.bool ?_; simp_all; done)))
theorem goodKeyS_spec (s : Str) (hs : s.length ≤ 4611686018427387904) : FSpec Try.prog 72 [AV.str s] (AV.bool (l3Key s)) := by
  refine spec_of_awp Try.func72 rfl Try.ntmps72 rfl ?_
  refine awp_seq ?_
  refine awp_region ?_
  refine sq_plain rfl rfl rfl (w_assign rfl ev_cb) ?_
  refine sq_nil ?_
  refine awp_seq ?_
  refine awp_region ?_
  refine sq_plain rfl rfl rfl (w_move rfl (ev_tmp rfl)) ?_
  refine sq_plain rfl rfl rfl (w_call rfl Try.call166 rfl (l3Key_spec _ (by omega)) (evl_cons (ev_tmp rfl) evl_nil)) ?_
  refine sq_plain rfl rfl rfl (w_assign rfl (ev_tmp rfl)) ?_
  refine sq_nil ?_
  refine awp_ret ?_
  exact retR rfl (rv_tmp' rfl (by first | rfl | (refine congrArg AV.bool ?_; simp_all; done)))
theorem goodWritesS_spec (l : List TWrite) (hs : sizeL TWrite.size l ≤ 1048576) : FSpec Try.prog 63 [AV.list 3 (l.map TWrite.cs)] (AV.bool (l3Writes l)) := by
  refine spec_of_awp Try.func63 rfl Try.ntmps63 rfl ?_
  refine awp_seq ?_
  refine awp_region ?_
  refine sq_plain rfl rfl rfl (w_assign rfl ev_cb) ?_
  refine sq_nil ?_
  refine awp_seq ?_
  refine awp_region ?_
  refine sq_plain rfl rfl rfl (w_move rfl (ev_tmp rfl)) ?_
  refine sq_plain rfl rfl rfl (w_call rfl Try.call157 rfl (l3Writes_spec _ (by first | assumption | omega)) (evl_cons (ev_tmp rfl) evl_nil)) ?_
  refine sq_plain rfl rfl rfl (w_assign rfl (ev_tmp rfl)) ?_
  refine sq_nil ?_
  refine awp_ret ?_
  exact retR rfl (rv_tmp' rfl (by first | rfl | (refine congrArg AV.bool ?_; simp_all; done)))
end Go.Proofs.Yteliahajeokciaa

set_option linter.unusedVariables false
set_option linter.unusedSimpArgs false
set_option maxRecDepth 100000
namespace Go.Proofs.Yteliahajeokciaa
open Go Go.AV Go.M
attribute [local irreducible] OpW OpA OpS AWP FSpec ESpec GSpec OpE RetOk RetOkG RvDen Le Ev GuardIs SrcIs
theorem big_spec (code more : List Int) : FSpec Try.prog 12 [bytesI code, bytesI more] (AV.bool (bigB code more)) := by
  refine spec_of_awp Try.func12 rfl Try.ntmps12 rfl ?_
  refine awp_len (t := 0) rfl fun hl0 => ?_
  try simp only [List.length_map] at hl0
  refine awp_len (t := 1) rfl fun hl1 => ?_
  try simp only [List.length_map] at hl1
  refine awp_seq ?_
  refine awp_region ?_
  refine sq_plain rfl rfl rfl (w_assign rfl ev_cb) ?_
  refine sq_nil ?_
  refine awp_seq ?_
  refine awp_region ?_
  refine sq_plain rfl rfl rfl (w_move rfl (ev_tmp rfl)) ?_
  refine sq_plain rfl rfl rfl (w_llen rfl Try.underlying22 (ev_tmp rfl)) ?_
  refine sq_plain rfl rfl rfl (w_gtr rfl (ev_tmp rfl) ev_ci) ?_
  refine sq_plain rfl rfl rfl (w_move rfl (ev_tmp rfl)) ?_
  refine sq_grd rfl rfl (guard_f rfl rfl rfl) (fun hc => w_move rfl (ev_tmp rfl)) ?_
  refine sq_grd rfl rfl (guard_f rfl rfl rfl) (fun hc => w_llen rfl Try.underlying22 (ev_whn rfl hc)) ?_
  refine sq_grd rfl rfl (guard_f rfl rfl rfl) (fun hc => w_move rfl (ev_tmp rfl)) ?_
  refine sq_grd rfl rfl (guard_f rfl rfl rfl) (fun hc => w_llen rfl Try.underlying22 (ev_whn rfl hc)) ?_
  refine sq_grd rfl rfl (guard_f rfl rfl rfl) (fun hc => w_subi rfl ev_ci (ev_whn rfl hc) (by simp only [List.length_map]; omega)) ?_
  refine sq_grd rfl rfl (guard_f rfl rfl rfl) (fun hc => w_gtr rfl (ev_whn rfl hc) (ev_whn rfl hc)) ?_
  refine sq_plain rfl rfl rfl (w_or rfl (ev_tmp rfl) (evif_w rfl)) ?_
  refine sq_plain rfl rfl rfl (w_assign rfl (ev_tmp rfl)) ?_
  refine sq_nil ?_
  refine awp_ret ?_
  exact retR rfl (rv_tmp' rfl (by (refine congrArg AV.bool ?_; unfold bigB; simp only [List.length_map])))
end Go.Proofs.Yteliahajeokciaa

set_option linter.unusedVariables false
set_option linter.unusedSimpArgs false
namespace Go.AV
open Go.ChangeShapes Go.WideShapes Go.ChangeAt Go.RowKit

def heapR (w : World) : RHeap := fun b => w.heap[b]?
theorem heapR_le (w : World) : RLe (heapR w) w := fun _ _ h => h
theorem rcell_heap {w : World} {a : Addr} {v : Value} (h : w.cell? a = some v) : rcell (heapR w) a = some v := h

/-- Cells that read as data of type t denote some a. -/
def Opens (P : Program) (t : TypeId) (α : Type) (enc : α → List AV) (ok : α → Prop) : Prop :=
  ∀ (H : Type) (en : TypeId × Value → H) (w : World) (base : Nat) (spare : Nat → Bool) (held : Bool) (fuel : Nat) (cs : List Value) (x : DataW H × List MemPlace),
    DataW.trod en P w base spare held fuel t cs = some x → ∃ a : α, ok a ∧ DenC (heapR w) cs (enc a)
theorem denC_one {R : RHeap} {v : Value} {x : AV} (h : x.den R v) (h1 : v.oneCell' = true) : DenC R [v] [x] :=
  ⟨rfl, fun i u y hu hy => by
    cases i with
    | zero => simp at hu hy; subst hu; subst hy; exact ⟨h, h1⟩
    | succ i => simp at hu⟩
theorem denC_append {R : RHeap} {vs us : List Value} {xs ys : List AV} (h : DenC R vs xs) (k : DenC R us ys) : DenC R (vs ++ us) (xs ++ ys) :=
  ⟨by simp [h.1, k.1], fun i v x hv hx => by
    by_cases hi : i < vs.length
    · rw [List.getElem?_append_left hi] at hv
      rw [List.getElem?_append_left (by rw [← h.1]; exact hi)] at hx
      exact h.2 i v x hv hx
    · rw [List.getElem?_append_right (by omega)] at hv
      rw [List.getElem?_append_right (by rw [← h.1]; omega), ← h.1] at hx
      exact k.2 _ v x hv hx⟩
section
variable {P : Program} {t e : TypeId}
theorem opens_int {k : IntKind} (ht : P.underlying t = some (.int k)) : Opens P t Int (fun n => [AV.ik k n]) (fun n => (Lit.int k n).wf = true) := fun H en w base spare held fuel cs x h => by
  obtain ⟨n, rfl, _, hw⟩ := DataW.trod_int ht h
  exact ⟨n, hw, denC_one rfl rfl⟩
theorem opens_bool (ht : P.underlying t = some .bool) : Opens P t Bool (fun b => [AV.bool b]) (fun _ => True) := fun H en w base spare held fuel cs x h => by
  obtain ⟨b, rfl, _⟩ := DataW.trod_bool ht h
  exact ⟨b, trivial, denC_one rfl rfl⟩
theorem opens_str (ht : P.underlying t = some .string) : Opens P t (List UInt8) (fun s => [AV.str s]) (fun s => s.length ≤ 9223372036854775807) := fun H en w base spare held fuel cs x h => by
  obtain ⟨s, rfl, _, hs⟩ := DataW.trod_string ht h
  refine ⟨s.data.toList, ?_, denC_one (show _ = _ by simp) rfl⟩
  unfold maxLen at hs
  show s.data.toList.length ≤ _
  rw [Array.length_toList]
  have e : s.data.size = s.size := rfl
  omega
theorem list_of {α : Type} {p : Nat → α → Prop} : ∀ n, (∀ i, i < n → ∃ a, p i a) → ∃ l : List α, l.length = n ∧ ∀ (i : Nat) (a : α), l[i]? = some a → p i a
  | 0, _ => ⟨[], rfl, fun i a h => by simp at h⟩
  | n + 1, h => by
    obtain ⟨l, h1, h2⟩ := list_of n fun i hi => h i (by omega)
    obtain ⟨a, ha⟩ := h n (by omega)
    refine ⟨l ++ [a], by simp [h1], fun i b hb => ?_⟩
    by_cases hi : i < l.length
    · rw [List.getElem?_append_left hi] at hb; exact h2 i b hb
    · rw [List.getElem?_append_right (by omega)] at hb
      have hin : i = n := by
        have := (List.getElem?_eq_some_iff.1 hb).1
        simp at this; omega
      subst hin
      rw [h1] at hb; simp at hb; subst hb; exact ha
theorem opens_slice {α : Type} {enc : α → List AV} {ok : α → Prop} {sz : Nat} (ht : P.underlying t = some (.slice e)) (hc : P.cellsOf e = sz) (h : Opens P e α enc ok) (hl : ∀ a, (enc a).length = sz) :
    Opens P t (List α) (fun l => [AV.list sz (l.map enc)]) (fun l => ∀ a ∈ l, ok a) := fun H en w base spare held fuel cs x hx => by
  rcases DataW.trod_slice ht hx with ⟨rfl, _⟩ | ⟨a, len, cap, elems, rest, n, _, rfl, _, _, hlc, hcm, hel, hi, _, _⟩
  · exact ⟨[], by simp, denC_one ⟨none, 0, rfl, Nat.le_refl _, Nat.zero_le _, by simp, fun h => absurd rfl h⟩ rfl⟩
  · obtain ⟨l, h1, h2⟩ := list_of (p := fun i b => ok b ∧ ∃ cs', w.cells? base (a.add (i * sz)) sz = some cs' ∧ DenC (heapR w) cs' (enc b)) len fun i hil => by
      have := hi i hil
      rw [hc, List.getElem?_eq_getElem (by omega)] at this
      obtain ⟨cs', hcs, htr⟩ := Option.bind_eq_some_iff.1 this
      obtain ⟨b, hb, hd⟩ := h H en w base spare held n cs' _ htr
      exact ⟨b, hb, cs', hcs, hd⟩
    refine ⟨l, fun b hb => ?_, denC_one ⟨some a, cap, by rw [List.length_map, h1], by rw [List.length_map, h1]; exact hlc, hcm, fun ec he => ?_, fun _ => ⟨a, rfl, fun j y hy => ?_⟩⟩ rfl⟩
    · obtain ⟨i, hib⟩ := List.getElem?_of_mem hb
      exact (h2 i b hib).1
    · obtain ⟨b, _, rfl⟩ := List.mem_map.1 he
      exact hl b
    · have hun : ∀ ec ∈ l.map enc, ec.length = sz := fun ec he => by
        obtain ⟨b, _, rfl⟩ := List.mem_map.1 he
        exact hl b
      have hjl : j < l.length * sz := by
        have := (List.getElem?_eq_some_iff.1 hy).1
        rwa [flatten_len hun, List.length_map] at this
      have hsz : 0 < sz := by
        rcases Nat.eq_zero_or_pos sz with h0 | h0
        · subst h0; omega
        · exact h0
      have hij : j / sz < l.length := Nat.div_lt_of_lt_mul (by rw [Nat.mul_comm]; exact hjl)
      have hkm : j % sz < sz := Nat.mod_lt _ hsz
      have hjj : j / sz * sz + j % sz = j := by rw [Nat.mul_comm]; exact Nat.div_add_mod j sz
      have hb : l[j / sz]? = some l[j / sz] := List.getElem?_eq_getElem hij
      obtain ⟨_, cs', hcs, hd⟩ := h2 _ _ hb
      obtain ⟨_, hcl, hat⟩ := World.cells?_some hcs
      have hk : (enc l[j / sz])[j % sz]? = some ((enc l[j / sz])[j % sz]'(by rw [hl]; exact hkm)) := List.getElem?_eq_getElem _
      have hyk := flatten_get hun (i := j / sz) (e := enc l[j / sz]) (by rw [List.getElem?_map, hb]; rfl) hk
      rw [hjj, hy] at hyk
      injection hyk with hyk
      have hv : cs'[j % sz]? = some (cs'[j % sz]'(by rw [hcl]; exact hkm)) := List.getElem?_eq_getElem _
      have hcell := hat (j % sz) hkm
      rw [hv, add_add, hjj] at hcell
      refine ⟨_, rcell_heap hcell, ?_⟩
      have := hd.2 _ _ _ hv hk
      rw [hyk]; exact this
/-- The fields of a struct, from an offset on. -/
def OpensF (P : Program) (fs : List Field) (off : Nat) (α : Type) (enc : α → List AV) (ok : α → Prop) (total : Nat) : Prop :=
  ∀ (H : Type) (en : TypeId × Value → H) (w : World) (base : Nat) (spare : Nat → Bool) (held : Bool) (fuel : Nat) (cs : List Value), cs.length = total →
    (∀ f ∈ fs, ∃ x, DataW.trod en P w base spare held fuel f.type ((cs.drop f.offset).take (P.cellsOf f.type)) = some x) → ∃ a : α, ok a ∧ DenC (heapR w) (cs.drop off) (enc a)
theorem opensF_nil {total : Nat} : OpensF P [] total Unit (fun _ => []) (fun _ => True) total := fun H en w base spare held fuel cs hl _ =>
  ⟨(), trivial, by rw [List.drop_eq_nil_of_le (by omega)]; exact ⟨rfl, fun i v x h => by simp at h⟩⟩
theorem opensF_cons {α β : Type} {f : Field} {fs : List Field} {off m total : Nat} {enc : α → List AV} {enc' : β → List AV} {ok : α → Prop} {ok' : β → Prop} (h : Opens P f.type α enc ok) (ho : f.offset = off) (hm : P.cellsOf f.type = m)
    (k : OpensF P fs (off + m) β enc' ok' total) : OpensF P (f :: fs) off (α × β) (fun a => enc a.1 ++ enc' a.2) (fun a => ok a.1 ∧ ok' a.2) total := fun H en w base spare held fuel cs hl hf => by
  obtain ⟨x, hx⟩ := hf f (by simp)
  rw [ho, hm] at hx
  obtain ⟨a, h1, h2⟩ := h H en w base spare held fuel _ x hx
  obtain ⟨b, h3, h4⟩ := k H en w base spare held fuel cs hl fun g hg => hf g (by simp [hg])
  refine ⟨(a, b), ⟨h1, h3⟩, ?_⟩
  have := denC_append h2 h4
  rwa [← List.drop_drop, List.take_append_drop] at this
theorem opens_struct {α : Type} {fs : Array Field} {enc : α → List AV} {ok : α → Prop} {total : Nat} (ht : P.underlying t = some (.struct fs)) (hc : P.cellsOf t = total) (h : OpensF P fs.toList 0 α enc ok total) : Opens P t α enc ok := fun H en w base spare held fuel cs x hx => by
  obtain ⟨xs, n, _, _, hl, hxl, hf⟩ := DataW.trod_struct ht hx
  obtain ⟨a, h1, h2⟩ := h H en w base spare held n cs (by rw [hl, hc]) fun f hfm => by
    obtain ⟨i, hi⟩ := List.getElem?_of_mem hfm
    have hi' : fs[i]? = some f := by rw [← Array.getElem?_toList]; exact hi
    have hlt : i < xs.length := by
      have := (Array.getElem?_eq_some_iff.1 hi').1
      omega
    exact ⟨xs[i], (hf i f hi').trans (List.getElem?_eq_getElem hlt)⟩
  exact ⟨a, h1, by simpa using h2⟩
theorem opens_map {α β : Type} {enc : α → List AV} {enc' : β → List AV} {ok : α → Prop} {ok' : β → Prop} (f : α → β) (h : Opens P t α enc ok) (he : ∀ a, enc' (f a) = enc a) (ho : ∀ a, ok a → ok' (f a)) : Opens P t β enc' ok' := fun H en w base spare held fuel cs x hx => by
  obtain ⟨a, h1, h2⟩ := h H en w base spare held fuel cs x hx
  exact ⟨f a, ho a h1, by rw [he]; exact h2⟩
/-- An argument that is a struct. -/
theorem arg_agg {H : Type} {en : TypeId × Value → H} {W : World} {base b0 : Nat} {spare : Nat → Bool} {held : Bool} {r : Reach} {α : Type} {fs : Array Field} {enc : α → List AV} {ok : α → Prop} {v : Value} {d : DataW H} {p : List MemPlace}
    (h : Opens P t α enc ok) (ht : P.underlying t = some (.struct fs)) (hv : Value.okWide P W r b0 t v) (hd : DataW.Trod en P W base spare held t v d p) : ∃ a, ok a ∧ (AV.agg (enc a)).den (heapR W) v := by
  obtain ⟨cs, rfl, _⟩ := okWide_struct ht hv
  obtain ⟨fuel, hf⟩ := hd
  obtain ⟨a, h1, h2⟩ := h H en W base spare held fuel _ _ hf
  exact ⟨a, h1, cs.toList, rfl, h2⟩
/-- An argument of one cell. -/
theorem arg_one {H : Type} {en : TypeId × Value → H} {W : World} {base : Nat} {spare : Nat → Bool} {held : Bool} {α : Type} {enc : α → AV} {ok : α → Prop} {v : Value} {d : DataW H} {p : List MemPlace}
    (h : Opens P t α (fun a => [enc a]) ok) (h1 : v.cells = #[v]) (hd : DataW.Trod en P W base spare held t v d p) : ∃ a, ok a ∧ (enc a).den (heapR W) v := by
  obtain ⟨fuel, hf⟩ := hd
  rw [h1] at hf
  obtain ⟨a, h2, h3⟩ := h H en W base spare held fuel _ _ hf
  exact ⟨a, h2, (h3.2 0 v _ rfl rfl).1⟩
theorem law_calls {f : FuncId} {xs : List AV} {b : Bool} {W : World} {vs : List Value} (h : FSpec P f xs (AV.bool b)) (hd : DenV (heapR W) vs xs) :
    Calls P f vs.toArray W fun e w' => e = .returned (.bool b) ∧ Below W.heap.size W w' :=
  (h (heapR W) W vs (heapR_le W) hd).mono fun e w' ⟨v, R', h1, h2, _, _, h5⟩ => ⟨by rw [h1]; exact congrArg Ending.returned h2, h5⟩
end
end Go.AV

set_option linter.unusedVariables false
set_option linter.unusedSimpArgs false
set_option maxRecDepth 100000
set_option maxHeartbeats 1000000
namespace Go.M
open Go.AV
theorem putR_size (l : List TCell) (w : List TWrite) (t : Int) : sizeL TCell.size (putCellsR l w t).1 ≤ 9912 := by
  unfold putCellsR
  split
  · simp [sizeL]
  · unfold putCells
    cases putAll l w t with
    | none => simp [sizeL]
    | some out =>
      dsimp only
      cases hg : goodCells out with
      | true => exact good_size hg
      | false => simp [sizeL]
end Go.M
namespace Go.Proofs.Yteliahajeokciaa
open Go Go.AV Go.M
open Go.ChangeShapes Go.WideShapes Go.ChangeAt Go.RowKit
section
attribute [local irreducible] OpW OpA OpS AWP FSpec ESpec GSpec OpE RetOk RetOkG RvDen Le Ev GuardIs SrcIs
theorem putCellsRL_spec (l : List TCell) (w : List TWrite) (t : Int) (hs : sizeL TCell.size l ≤ 1048576) (hw : sizeL TWrite.size w ≤ 1048576) : FSpec Try.prog 59 [AV.list 2 (l.map TCell.cs), AV.list 3 (w.map TWrite.cs), AV.int t] (AV.tup [AV.list 2 ((putCellsR l w t).1.map TCell.cs), AV.bool (putCellsR l w t).2]) :=
  fspec_of_gspec (putCellsR_own l w t hs hw) fun x h => lt_tup (lc_cons (nin_lend TCell.lcM h 0 rfl fun o ho => List.mem_cons_of_mem _ ho) (lc_cons lt_refl lc_nil))
theorem putCellsSL_spec (l : List TCell) (w : List TWrite) (t : Int) (hs : sizeL TCell.size l ≤ 1048576) (hw : sizeL TWrite.size w ≤ 1048576) : FSpec Try.prog 60 [AV.list 2 (l.map TCell.cs), AV.list 3 (w.map TWrite.cs), AV.int t] (AV.tup [AV.list 2 ((putCellsR l w t).1.map TCell.cs), AV.bool (putCellsR l w t).2]) := by
  rw [putCellsR_eq]
  exact fspec_of_gspec (putCellsS_own l w t hs hw) fun x h => lt_tup (lc_cons (nin_lend TCell.lcM h 0 rfl fun o ho => List.mem_cons_of_mem _ ho) (lc_cons lt_refl lc_nil))
theorem fnCells_spec (code : List Int) (hc : ∀ x ∈ code, (Lit.int .u8 x).wf = true) (more : List Int) (hm : ∀ x ∈ more, (Lit.int .u8 x).wf = true) : FSpec Try.prog 7 [bytesI code, bytesI more] (AV.bool true) := by
  refine spec_of_awp Try.func7 rfl Try.ntmps7 rfl ?_
  refine awp_seq ?_
  refine awp_region ?_
  refine sq_plain rfl rfl rfl (w_assign rfl ev_cb) ?_
  refine sq_nil ?_
  refine awp_seq ?_
  refine awp_seq ?_
  refine awp_region ?_
  refine sq_plain rfl rfl rfl (w_move rfl (ev_tmp rfl)) ?_
  refine sq_plain rfl rfl rfl (w_move rfl (ev_tmp rfl)) ?_
  refine sq_plain rfl rfl rfl (w_call rfl Try.call12 rfl (big_spec _ _) (evl_cons (ev_tmp rfl) (evl_cons (ev_tmp rfl) evl_nil))) ?_
  refine sq_nil ?_
  refine awp_cond (ev_tmp rfl) ?_ ?_
  · intro h46
    refine awp_seq ?_
    refine awp_region ?_
    refine sq_plain rfl rfl rfl (w_assign rfl ev_cb) ?_
    refine sq_nil ?_
    refine awp_ret ?_
    exact retR rfl (rv_tmp' rfl (by first | rfl | exact congrArg AV.bool (by rw [← cellAtR_eq, ← lastTimeR_eq, goodKey_eq]; simp)))
  · intro h46
    have hb0 : ByteL code := byteL_of hc
    have hb1 : ByteL more := byteL_of hm
    refine awp_skip ?_
    refine awp_seq ?_
    refine awp_region ?_
    refine sq_plain rfl rfl rfl (w_move rfl (ev_tmp rfl)) ?_
    refine sq_callG [] rfl rfl rfl rfl Try.call58 rfl (drawPutCells_own code hb0) (evl_cons (ev_tmp rfl) evl_nil) rfl ?_
    intro x49 ok49
    obtain ⟨⟨l, ⟨w, v49⟩, t⟩, hx49⟩ : ∃ z, x49 = z := ⟨_, rfl⟩
    subst hx49
    obtain ⟨hls, hws, ht0, ht1⟩ := ok49
    dsimp only at hls hws ht0 ht1 ⊢
    have hps := putR_size l w t
    have hwn : w.length ≤ 700 := Nat.le_trans sizeL_len hws
    refine sq_plain rfl rfl rfl (w_move rfl (ev_tmp rfl)) ?_
    refine sq_plain rfl rfl rfl (w_extract rfl (ev_tmp rfl) rfl) ?_
    refine sq_plain rfl rfl rfl (w_extract rfl (ev_tmp rfl) rfl) ?_
    refine sq_plain rfl rfl rfl (w_extract rfl (ev_tmp rfl) rfl) ?_
    refine sq_plain rfl rfl rfl (w_assign rfl (ev_tmp rfl)) ?_
    refine sq_plain rfl rfl rfl (w_assign rfl (ev_tmp rfl)) ?_
    refine sq_plain rfl rfl rfl (w_assign rfl (ev_tmp rfl)) ?_
    refine sq_nil ?_
    refine awp_seq ?_
    refine AWP.le (le_sealD [0] 6 rfl rfl (lt_arr (List.mem_of_getElem? (i := 0) rfl) le_refl_e) gin_false) ?_
    refine awp_region ?_
    refine sq_plain rfl rfl rfl (w_move rfl (ev_tmp rfl)) ?_
    refine sq_plain rfl rfl rfl (w_move rfl (ev_tmp rfl)) ?_
    refine sq_plain rfl rfl rfl (w_move rfl (ev_tmp rfl)) ?_
    refine sq_plain rfl rfl rfl (w_call rfl Try.call59 rfl (putCellsRL_spec _ _ _ (by first | assumption | omega) (by first | assumption | omega)) (evl_cons (ev_tmp rfl) (evl_cons (ev_tmp rfl) (evl_cons (ev_tmp rfl) evl_nil)))) ?_
    refine sq_plain rfl rfl rfl (w_move rfl (ev_tmp rfl)) ?_
    refine sq_plain rfl rfl rfl (w_extract rfl (ev_tmp rfl) rfl) ?_
    refine sq_plain rfl rfl rfl (w_extract rfl (ev_tmp rfl) rfl) ?_
    refine sq_plain rfl rfl rfl (w_assign rfl (ev_tmp rfl)) ?_
    refine sq_plain rfl rfl rfl (w_assign rfl (ev_tmp rfl)) ?_
    refine sq_nil ?_
    refine awp_seq ?_
    refine awp_region ?_
    refine sq_plain rfl rfl rfl (w_move rfl (ev_tmp rfl)) ?_
    refine sq_plain rfl rfl rfl (w_move rfl (ev_tmp rfl)) ?_
    refine sq_plain rfl rfl rfl (w_move rfl (ev_tmp rfl)) ?_
    refine sq_plain rfl rfl rfl (w_call rfl Try.call60 rfl (putCellsSL_spec _ _ _ (by first | assumption | omega) (by first | assumption | omega)) (evl_cons (ev_tmp rfl) (evl_cons (ev_tmp rfl) (evl_cons (ev_tmp rfl) evl_nil)))) ?_
    refine sq_plain rfl rfl rfl (w_move rfl (ev_tmp rfl)) ?_
    refine sq_plain rfl rfl rfl (w_extract rfl (ev_tmp rfl) rfl) ?_
    refine sq_plain rfl rfl rfl (w_extract rfl (ev_tmp rfl) rfl) ?_
    refine sq_plain rfl rfl rfl (w_assign rfl (ev_tmp rfl)) ?_
    refine sq_plain rfl rfl rfl (w_assign rfl (ev_tmp rfl)) ?_
    refine sq_nil ?_
    refine awp_seq ?_
    refine awp_seq ?_
    refine awp_region ?_
    refine sq_plain rfl rfl rfl (w_move rfl (ev_tmp rfl)) ?_
    refine sq_plain rfl rfl rfl (w_move rfl (ev_tmp rfl)) ?_
    refine sq_plain rfl rfl rfl (w_bneq rfl Try.underlying4 (ev_tmp rfl) (ev_tmp rfl)) ?_
    refine sq_plain rfl rfl rfl (w_move rfl (ev_tmp rfl)) ?_
    refine sq_grd rfl rfl (guard_f rfl rfl rfl) (fun hc => w_move rfl (ev_tmp rfl)) ?_
    refine sq_grd rfl rfl (guard_f rfl rfl rfl) (fun hc => w_move rfl (ev_tmp rfl)) ?_
    refine sq_grd rfl rfl (guard_f rfl rfl rfl) (fun hc => w_call rfl Try.call48 rfl (sameCellsS_spec _ _ (by first | assumption | omega)) (evl_cons (ev_whn rfl hc) (evl_cons (ev_whn rfl hc) evl_nil))) ?_
    refine sq_grd rfl rfl (guard_f rfl rfl rfl) (fun hc => w_not rfl (ev_whn rfl hc)) ?_
    refine sq_plain rfl rfl rfl (w_or rfl (ev_tmp rfl) (evif_w rfl)) ?_
    refine sq_plain rfl rfl rfl (w_move rfl (ev_tmp rfl)) ?_
    refine sq_grd rfl rfl (guard_f rfl rfl rfl) (fun hc => w_move rfl (ev_tmp rfl)) ?_
    refine sq_grd rfl rfl (guard_f rfl rfl rfl) (fun hc => w_call rfl Try.call49 rfl (goodCells_spec _ (by first | assumption | omega)) (evl_cons (ev_whn rfl hc) evl_nil)) ?_
    refine sq_grd rfl rfl (guard_f rfl rfl rfl) (fun hc => w_move rfl (ev_tmp rfl)) ?_
    refine sq_grd rfl rfl (guard_f rfl rfl rfl) (fun hc => w_call rfl Try.call61 rfl (goodCellsS_spec _ (by first | assumption | omega)) (evl_cons (ev_whn rfl hc) evl_nil)) ?_
    refine sq_grd rfl rfl (guard_f rfl rfl rfl) (fun hc => w_bneq rfl Try.underlying4 (ev_whn rfl hc) (ev_whn rfl hc)) ?_
    refine sq_plain rfl rfl rfl (w_or rfl (ev_tmp rfl) (evif_w rfl)) ?_
    refine sq_plain rfl rfl rfl (w_move rfl (ev_tmp rfl)) ?_
    refine sq_grd rfl rfl (guard_f rfl rfl rfl) (fun hc => w_move rfl (ev_tmp rfl)) ?_
    refine sq_grd rfl rfl (guard_f rfl rfl rfl) (fun hc => w_call rfl Try.call62 rfl (goodWrites_spec _ (by first | assumption | omega)) (evl_cons (ev_whn rfl hc) evl_nil)) ?_
    refine sq_grd rfl rfl (guard_f rfl rfl rfl) (fun hc => w_move rfl (ev_tmp rfl)) ?_
    refine sq_grd rfl rfl (guard_f rfl rfl rfl) (fun hc => w_call rfl Try.call63 rfl (goodWritesS_spec _ (by first | assumption | omega)) (evl_cons (ev_whn rfl hc) evl_nil)) ?_
    refine sq_grd rfl rfl (guard_f rfl rfl rfl) (fun hc => w_bneq rfl Try.underlying4 (ev_whn rfl hc) (ev_whn rfl hc)) ?_
    refine sq_plain rfl rfl rfl (w_or rfl (ev_tmp rfl) (evif_w rfl)) ?_
    refine sq_nil ?_
    refine awp_cond (ev_tmp rfl) ?_ ?_
    · intro h89
      exfalso; rw [← goodCells_eq, ← goodWrites_eq] at h89; simp at h89
    · intro h89
      refine awp_skip ?_
      refine awp_seq ?_
      refine awp_seq ?_
      refine awp_region ?_
      refine sq_plain rfl rfl rfl (w_move rfl (ev_tmp rfl)) ?_
      refine sq_nil ?_
      refine awp_cond (ev_tmp rfl) ?_ ?_
      · intro h90
        obtain ⟨hg, hgw, htt, p, hp, hpg, hpr⟩ := put_ok h90
        rw [hpr] at hps
        rw [hpr]
        have hpw := fun hn => put_twice hg hgw hp hn
        have hsee : ∀ {x : TWrite}, x ∈ w → _ := fun {x} hx => put_seen hg hgw htt hp hpg (x := x) hx
        dsimp only at hps ⊢
        refine awp_seq ?_
        refine awp_seq ?_
        refine awp_region ?_
        refine sq_plain rfl rfl rfl (w_move rfl (ev_tmp rfl)) ?_
        refine sq_plain rfl rfl rfl (w_call rfl Try.call49 rfl (goodCells_spec _ (by first | assumption | omega)) (evl_cons (ev_tmp rfl) evl_nil)) ?_
        refine sq_plain rfl rfl rfl (w_not rfl (ev_tmp rfl)) ?_
        refine sq_nil ?_
        refine awp_cond (ev_tmp rfl) ?_ ?_
        · intro h93
          exfalso; rw [hpg] at h93; cases h93
        · intro h93
          refine awp_skip ?_
          refine awp_seq ?_
          refine awp_seq ?_
          refine awp_region ?_
          refine sq_plain rfl rfl rfl (w_move rfl (ev_tmp rfl)) ?_
          refine sq_plain rfl rfl rfl (w_llen rfl Try.underlying60 (ev_tmp rfl)) ?_
          refine sq_plain rfl rfl rfl (w_move rfl ev_ci) ?_
          refine sq_nil ?_
          refine awp_block ?_
          refine awp_loop_i [(1, _), (5, _), (6, _), (7, _), (8, _), (94, _), (95, _)] _ (fun (i : Nat) => i ≤ w.length) (fun (i : Nat) => []) (fun (i : Nat) => [(96, AV.int i)]) (fun (i : Nat) => w.length - i) (0) ?_ (le_env ⟨rfl, rfl, rfl, rfl, rfl, rfl, rfl, rfl, trivial⟩) ?_
          · exact Nat.zero_le _
          intro i hinv
          refine awp_seq ?_
          refine awp_region ?_
          refine sq_plain rfl rfl rfl (w_lss rfl (ev_tmp rfl) (ev_tmp rfl)) ?_
          refine sq_nil ?_
          refine awp_seq ?_
          refine awp_cond (ev_tmp rfl) ?_ ?_
          · intro h97
            have k97 := of_decide_eq_true h97; try simp only [List.length_map] at k97
            have hlt : i < w.length := by omega
            obtain ⟨x, hx⟩ := get_some hlt
            obtain ⟨hs1, hs2, hs3, hs4⟩ := hsee (List.mem_of_getElem? hx)
            have hxk := goodKey_len (writes_key hgw (List.mem_of_getElem? hx))
            refine awp_skip ?_
            refine awp_seq ?_
            refine awp_block ?_
            refine awp_seq ?_
            refine awp_region ?_
            refine sq_plain rfl rfl rfl (w_idxm rfl Try.underlying60 Try.sizeOf65 (ev_tmp rfl) (ev_tmp rfl) hx (by first | omega | ((try simp only [List.length_map, List.length_take, List.length_cons, List.length_nil, chunks_len, szR] at *); omega) | (have hc2 := hc; simp only [Bool.and_eq_true, Bool.or_eq_true, Bool.or_eq_false_iff, Bool.and_eq_false_iff, Bool.not_eq_true', Bool.not_eq_false', decide_eq_true_eq, decide_eq_false_iff_not, beq_iff_eq, bne_iff_ne, List.length_map, List.length_take] at hc2; omega))) ?_
            refine sq_plain rfl rfl rfl (w_loadE rfl (ev_tmp rfl) Try.isAgg65 Try.sizeOf65) ?_
            refine sq_alloc rfl rfl rfl rfl Try.zeroValue65 rfl ?_
            intro b13
            refine sq_storeB0 0 rfl rfl rfl (ev_tmp rfl) (ev_tmp rfl) (as_agg _) rfl Try.sizeOf65 rfl ?_
            refine sq_nil ?_
            refine awp_seq ?_
            refine awp_region ?_
            refine sq_plain rfl rfl rfl (w_move rfl (ev_tmp rfl)) ?_
            refine sq_plain rfl rfl rfl (w_fldBn 0 rfl Try.underlying65 rfl Try.sizeOf9 (ev_tmp rfl) rfl) ?_
            refine sq_plain rfl rfl rfl (w_loadB1 0 rfl (ev_tmp rfl) rfl Try.isAgg9 rfl) ?_
            refine sq_plain rfl rfl rfl (w_move rfl (ev_tmp rfl)) ?_
            refine sq_plain rfl rfl rfl (w_call rfl Try.call52 rfl (cellAtR_spec _ _ _ (by first | assumption | omega) (by first | assumption | omega)) (evl_cons (ev_tmp rfl) (evl_cons (ev_tmp rfl) (evl_cons (ev_tmp rfl) evl_nil)))) ?_
            refine sq_plain rfl rfl rfl (w_move rfl (ev_tmp rfl)) ?_
            refine sq_plain rfl rfl rfl (w_extract rfl (ev_tmp rfl) rfl) ?_
            refine sq_plain rfl rfl rfl (w_extract rfl (ev_tmp rfl) rfl) ?_
            refine sq_plain rfl rfl rfl (w_extract rfl (ev_tmp rfl) rfl) ?_
            refine sq_plain rfl rfl rfl (w_assign rfl (ev_tmp rfl)) ?_
            refine sq_plain rfl rfl rfl (w_assign rfl (ev_tmp rfl)) ?_
            refine sq_plain rfl rfl rfl (w_assign rfl (ev_tmp rfl)) ?_
            refine sq_nil ?_
            refine awp_seq ?_
            refine awp_region ?_
            refine sq_plain rfl rfl rfl (w_move rfl (ev_tmp rfl)) ?_
            refine sq_plain rfl rfl rfl (w_fldBn 0 rfl Try.underlying65 rfl Try.sizeOf9 (ev_tmp rfl) rfl) ?_
            refine sq_plain rfl rfl rfl (w_loadB1 0 rfl (ev_tmp rfl) rfl Try.isAgg9 rfl) ?_
            refine sq_plain rfl rfl rfl (w_call rfl Try.call64 rfl (lastTimeR_spec _ _ (by first | assumption | omega) (by first | assumption | omega)) (evl_cons (ev_tmp rfl) (evl_cons (ev_tmp rfl) evl_nil))) ?_
            refine sq_plain rfl rfl rfl (w_move rfl (ev_tmp rfl)) ?_
            refine sq_plain rfl rfl rfl (w_extract rfl (ev_tmp rfl) rfl) ?_
            refine sq_plain rfl rfl rfl (w_extract rfl (ev_tmp rfl) rfl) ?_
            refine sq_plain rfl rfl rfl (w_assign rfl (ev_tmp rfl)) ?_
            refine sq_plain rfl rfl rfl (w_assign rfl (ev_tmp rfl)) ?_
            refine sq_nil ?_
            refine awp_seq ?_
            refine awp_region ?_
            refine sq_plain rfl rfl rfl (w_move rfl (ev_tmp rfl)) ?_
            refine sq_plain rfl rfl rfl (w_fldBn 0 rfl Try.underlying65 rfl Try.sizeOf9 (ev_tmp rfl) rfl) ?_
            refine sq_plain rfl rfl rfl (w_loadB1 0 rfl (ev_tmp rfl) rfl Try.isAgg9 rfl) ?_
            refine sq_plain rfl rfl rfl (w_move rfl (ev_tmp rfl)) ?_
            refine sq_plain rfl rfl rfl (w_subi rfl (ev_tmp rfl) ev_ci (by first | omega | ((try simp only [List.length_map, List.length_take, List.length_cons, List.length_nil, chunks_len, szR] at *); omega) | (have hc2 := hc; simp only [Bool.and_eq_true, Bool.or_eq_true, Bool.or_eq_false_iff, Bool.and_eq_false_iff, Bool.not_eq_true', Bool.not_eq_false', decide_eq_true_eq, decide_eq_false_iff_not, beq_iff_eq, bne_iff_ne, List.length_map, List.length_take] at hc2; omega))) ?_
            refine sq_plain rfl rfl rfl (w_call rfl Try.call52 rfl (cellAtR_spec _ _ _ (by first | assumption | omega) (by first | assumption | omega)) (evl_cons (ev_tmp rfl) (evl_cons (ev_tmp rfl) (evl_cons (ev_tmp rfl) evl_nil)))) ?_
            refine sq_plain rfl rfl rfl (w_move rfl (ev_tmp rfl)) ?_
            refine sq_plain rfl rfl rfl (w_extract rfl (ev_tmp rfl) rfl) ?_
            refine sq_plain rfl rfl rfl (w_extract rfl (ev_tmp rfl) rfl) ?_
            refine sq_plain rfl rfl rfl (w_extract rfl (ev_tmp rfl) rfl) ?_
            refine sq_plain rfl rfl rfl (w_assign rfl (ev_tmp rfl)) ?_
            refine sq_plain rfl rfl rfl (w_assign rfl (ev_tmp rfl)) ?_
            refine sq_plain rfl rfl rfl (w_assign rfl (ev_tmp rfl)) ?_
            refine sq_nil ?_
            refine awp_seq ?_
            refine awp_region ?_
            refine sq_plain rfl rfl rfl (w_move rfl (ev_tmp rfl)) ?_
            refine sq_plain rfl rfl rfl (w_fldBn 0 rfl Try.underlying65 rfl Try.sizeOf9 (ev_tmp rfl) rfl) ?_
            refine sq_plain rfl rfl rfl (w_loadB1 0 rfl (ev_tmp rfl) rfl Try.isAgg9 rfl) ?_
            refine sq_plain rfl rfl rfl (w_move rfl (ev_tmp rfl)) ?_
            refine sq_plain rfl rfl rfl (w_subi rfl (ev_tmp rfl) ev_ci (by first | omega | ((try simp only [List.length_map, List.length_take, List.length_cons, List.length_nil, chunks_len, szR] at *); omega) | (have hc2 := hc; simp only [Bool.and_eq_true, Bool.or_eq_true, Bool.or_eq_false_iff, Bool.and_eq_false_iff, Bool.not_eq_true', Bool.not_eq_false', decide_eq_true_eq, decide_eq_false_iff_not, beq_iff_eq, bne_iff_ne, List.length_map, List.length_take] at hc2; omega))) ?_
            refine sq_plain rfl rfl rfl (w_call rfl Try.call52 rfl (cellAtR_spec _ _ _ (by first | assumption | omega) (by first | assumption | omega)) (evl_cons (ev_tmp rfl) (evl_cons (ev_tmp rfl) (evl_cons (ev_tmp rfl) evl_nil)))) ?_
            refine sq_plain rfl rfl rfl (w_move rfl (ev_tmp rfl)) ?_
            refine sq_plain rfl rfl rfl (w_extract rfl (ev_tmp rfl) rfl) ?_
            refine sq_plain rfl rfl rfl (w_extract rfl (ev_tmp rfl) rfl) ?_
            refine sq_plain rfl rfl rfl (w_extract rfl (ev_tmp rfl) rfl) ?_
            refine sq_plain rfl rfl rfl (w_assign rfl (ev_tmp rfl)) ?_
            refine sq_plain rfl rfl rfl (w_assign rfl (ev_tmp rfl)) ?_
            refine sq_plain rfl rfl rfl (w_assign rfl (ev_tmp rfl)) ?_
            refine sq_nil ?_
            refine awp_seq ?_
            rw [hs1, hs2, hs3]
            refine awp_region ?_
            refine sq_plain rfl rfl rfl (w_move rfl (ev_tmp rfl)) ?_
            refine sq_plain rfl rfl rfl (w_not rfl (ev_tmp rfl)) ?_
            refine sq_plain rfl rfl rfl (w_move rfl (ev_tmp rfl)) ?_
            refine sq_grd rfl rfl (guard_f rfl rfl rfl) (fun hc => w_move rfl (ev_tmp rfl)) ?_
            refine sq_grd rfl rfl (guard_f rfl rfl rfl) (fun hc => w_fldBn 2 rfl Try.underlying65 rfl Try.sizeOf4 (ev_tmp rfl) rfl) ?_
            refine sq_grd rfl rfl (guard_f rfl rfl rfl) (fun hc => w_loadB1 0 rfl (ev_whn rfl hc) rfl Try.isAgg4 rfl) ?_
            refine sq_grd rfl rfl (guard_f rfl rfl rfl) (fun hc => w_beql rfl Try.underlying4 (ev_whn rfl hc) (ev_whn rfl hc)) ?_
            refine sq_plain rfl rfl rfl (w_or rfl (ev_tmp rfl) (evif_w rfl)) ?_
            refine sq_plain rfl rfl rfl (w_move rfl (ev_tmp rfl)) ?_
            refine sq_grd rfl rfl (guard_f rfl rfl rfl) (fun hc => w_move rfl (ev_tmp rfl)) ?_
            refine sq_grd rfl rfl (guard_f rfl rfl rfl) (fun hc => w_fldBn 1 rfl Try.underlying65 rfl Try.sizeOf9 (ev_tmp rfl) rfl) ?_
            refine sq_grd rfl rfl (guard_f rfl rfl rfl) (fun hc => w_loadB1 0 rfl (ev_whn rfl hc) rfl Try.isAgg9 rfl) ?_
            refine sq_grd rfl rfl (guard_f rfl rfl rfl) (fun hc => w_sneq rfl (ev_whn rfl hc) (ev_whn rfl hc)) ?_
            refine sq_plain rfl rfl rfl (w_or rfl (ev_tmp rfl) (evif_w rfl)) ?_
            refine sq_plain rfl rfl rfl (w_move rfl (ev_tmp rfl)) ?_
            refine sq_grd rfl rfl (guard_f rfl rfl rfl) (fun hc => w_move rfl (ev_tmp rfl)) ?_
            refine sq_grd rfl rfl (guard_f rfl rfl rfl) (fun hc => w_not rfl (ev_whn rfl hc)) ?_
            refine sq_plain rfl rfl rfl (w_or rfl (ev_tmp rfl) (evif_w rfl)) ?_
            refine sq_plain rfl rfl rfl (w_move rfl (ev_tmp rfl)) ?_
            refine sq_grd rfl rfl (guard_f rfl rfl rfl) (fun hc => w_move rfl (ev_tmp rfl)) ?_
            refine sq_grd rfl rfl (guard_f rfl rfl rfl) (fun hc => w_move rfl (ev_tmp rfl)) ?_
            refine sq_grd rfl rfl (guard_f rfl rfl rfl) (fun hc => w_neq rfl (ev_whn rfl hc) (ev_whn rfl hc)) ?_
            refine sq_plain rfl rfl rfl (w_or rfl (ev_tmp rfl) (evif_w rfl)) ?_
            refine sq_plain rfl rfl rfl (w_move rfl (ev_tmp rfl)) ?_
            refine sq_grd rfl rfl (guard_f rfl rfl rfl) (fun hc => w_move rfl (ev_tmp rfl)) ?_
            refine sq_grd rfl rfl (guard_f rfl rfl rfl) (fun hc => w_not rfl (ev_whn rfl hc)) ?_
            refine sq_plain rfl rfl rfl (w_or rfl (ev_tmp rfl) (evif_w rfl)) ?_
            refine sq_plain rfl rfl rfl (w_move rfl (ev_tmp rfl)) ?_
            refine sq_grd rfl rfl (guard_f rfl rfl rfl) (fun hc => w_move rfl (ev_tmp rfl)) ?_
            refine sq_grd rfl rfl (guard_f rfl rfl rfl) (fun hc => w_not rfl (ev_whn rfl hc)) ?_
            refine sq_plain rfl rfl rfl (w_or rfl (ev_tmp rfl) (evif_w rfl)) ?_
            refine sq_plain rfl rfl rfl (w_move rfl (ev_tmp rfl)) ?_
            refine sq_grd rfl rfl (guard_f rfl rfl rfl) (fun hc => w_move rfl (ev_tmp rfl)) ?_
            refine sq_grd rfl rfl (guard_f rfl rfl rfl) (fun hc => w_move rfl (ev_tmp rfl)) ?_
            refine sq_grd rfl rfl (guard_f rfl rfl rfl) (fun hc => w_sneq rfl (ev_whn rfl hc) (ev_whn rfl hc)) ?_
            refine sq_plain rfl rfl rfl (w_or rfl (ev_tmp rfl) (evif_w rfl)) ?_
            refine sq_plain rfl rfl rfl (w_move rfl (ev_tmp rfl)) ?_
            refine sq_grd rfl rfl (guard_f rfl rfl rfl) (fun hc => w_move rfl (ev_tmp rfl)) ?_
            refine sq_grd rfl rfl (guard_f rfl rfl rfl) (fun hc => w_move rfl (ev_tmp rfl)) ?_
            refine sq_grd rfl rfl (guard_f rfl rfl rfl) (fun hc => w_bneq rfl Try.underlying4 (ev_whn rfl hc) (ev_whn rfl hc)) ?_
            refine sq_plain rfl rfl rfl (w_or rfl (ev_tmp rfl) (evif_w rfl)) ?_
            refine sq_nil ?_
            refine awp_cond (ev_tmp rfl) ?_ ?_
            · intro h176
              exfalso; rw [hs4] at h176; revert h176; cases x.Gone <;> simp
            · intro h176
              refine awp_skip ?_
              refine awp_region ?_
              refine sq_plain rfl rfl rfl (w_addi rfl (ev_tmp rfl) ev_ci (by omega)) ?_
              refine sq_plain rfl rfl rfl (w_move rfl (ev_tmp rfl)) ?_
              refine sq_nil ?_
              refine round_end i (i + 1) ?_ ?_ (le_drop 1 ⟨rfl, rfl, rfl, rfl, rfl, rfl, rfl, rfl, trivial⟩)
              · omega
              · omega
          · intro h97
            have k97 := of_decide_eq_false h97; try simp only [List.length_map] at k97
            refine awp_exit ?_
            refine awp_seq ?_
            refine awp_region ?_
            refine sq_plain rfl rfl rfl (w_move rfl (ev_tmp rfl)) ?_
            refine sq_plain rfl rfl rfl (w_move rfl (ev_tmp rfl)) ?_
            refine sq_plain rfl rfl rfl (w_move rfl (ev_tmp rfl)) ?_
            refine sq_plain rfl rfl rfl (w_call rfl Try.call59 rfl (putCellsRL_spec _ _ _ (by first | assumption | omega) (by first | assumption | omega)) (evl_cons (ev_tmp rfl) (evl_cons (ev_tmp rfl) (evl_cons (ev_tmp rfl) evl_nil)))) ?_
            refine sq_plain rfl rfl rfl (w_move rfl (ev_tmp rfl)) ?_
            refine sq_plain rfl rfl rfl (w_extract rfl (ev_tmp rfl) rfl) ?_
            refine sq_plain rfl rfl rfl (w_extract rfl (ev_tmp rfl) rfl) ?_
            refine sq_plain rfl rfl rfl (w_assign rfl (ev_tmp rfl)) ?_
            refine sq_plain rfl rfl rfl (w_assign rfl (ev_tmp rfl)) ?_
            refine sq_nil ?_
            refine awp_seq ?_
            refine awp_region ?_
            refine sq_plain rfl rfl rfl (w_move rfl (ev_tmp rfl)) ?_
            refine sq_plain rfl rfl rfl (w_move rfl (ev_tmp rfl)) ?_
            refine sq_grd rfl rfl (guard_t rfl rfl rfl) (fun hc => w_move rfl (ev_tmp rfl)) ?_
            refine sq_grd rfl rfl (guard_t rfl rfl rfl) (fun hc => w_llen rfl Try.underlying60 (ev_whn rfl hc)) ?_
            refine sq_grd rfl rfl (guard_t rfl rfl rfl) (fun hc => w_gtr rfl (ev_whn rfl hc) ev_ci) ?_
            refine sq_plain rfl rfl rfl (w_and rfl (ev_tmp rfl) (evif_w rfl)) ?_
            refine sq_nil ?_
            refine awp_cond (ev_tmp rfl) ?_ ?_
            · intro h190
              exfalso; simp only [Bool.and_eq_true, decide_eq_true_eq, List.length_map] at h190; rw [hpw (by omega)] at h190; cases h190.1
            · intro h190
              refine awp_skip ?_
              refine awp_seq ?_
              refine awp_region ?_
              refine sq_plain rfl rfl rfl (w_move rfl (ev_tmp rfl)) ?_
              refine sq_callG [] rfl rfl rfl rfl Try.call65 rfl (drawCellAt_own more hb1) (evl_cons (ev_tmp rfl) evl_nil) rfl ?_
              intro x193 ok193
              obtain ⟨⟨l2, k2, t2⟩, hx193⟩ : ∃ z, x193 = z := ⟨_, rfl⟩
              subst hx193
              obtain ⟨hls2, hk2, _⟩ := ok193
              dsimp only at hls2 hk2 ⊢
              refine sq_plain rfl rfl rfl (w_move rfl (ev_tmp rfl)) ?_
              refine sq_plain rfl rfl rfl (w_extract rfl (ev_tmp rfl) rfl) ?_
              refine sq_plain rfl rfl rfl (w_extract rfl (ev_tmp rfl) rfl) ?_
              refine sq_plain rfl rfl rfl (w_extract rfl (ev_tmp rfl) rfl) ?_
              refine sq_plain rfl rfl rfl (w_assign rfl (ev_tmp rfl)) ?_
              refine sq_plain rfl rfl rfl (w_assign rfl (ev_tmp rfl)) ?_
              refine sq_plain rfl rfl rfl (w_assign rfl (ev_tmp rfl)) ?_
              refine sq_nil ?_
              refine awp_seq ?_
              refine awp_region ?_
              refine sq_plain rfl rfl rfl (w_move rfl (ev_tmp rfl)) ?_
              refine sq_plain rfl rfl rfl (w_move rfl (ev_tmp rfl)) ?_
              refine sq_plain rfl rfl rfl (w_move rfl (ev_tmp rfl)) ?_
              refine sq_plain rfl rfl rfl (w_call rfl Try.call52 rfl (cellAtR_spec _ _ _ (by first | assumption | omega) (by first | assumption | omega)) (evl_cons (ev_tmp rfl) (evl_cons (ev_tmp rfl) (evl_cons (ev_tmp rfl) evl_nil)))) ?_
              refine sq_plain rfl rfl rfl (w_move rfl (ev_tmp rfl)) ?_
              refine sq_plain rfl rfl rfl (w_extract rfl (ev_tmp rfl) rfl) ?_
              refine sq_plain rfl rfl rfl (w_extract rfl (ev_tmp rfl) rfl) ?_
              refine sq_plain rfl rfl rfl (w_extract rfl (ev_tmp rfl) rfl) ?_
              refine sq_plain rfl rfl rfl (w_assign rfl (ev_tmp rfl)) ?_
              refine sq_plain rfl rfl rfl (w_assign rfl (ev_tmp rfl)) ?_
              refine sq_plain rfl rfl rfl (w_assign rfl (ev_tmp rfl)) ?_
              refine sq_nil ?_
              refine awp_seq ?_
              refine awp_region ?_
              refine sq_plain rfl rfl rfl (w_move rfl (ev_tmp rfl)) ?_
              refine sq_plain rfl rfl rfl (w_move rfl (ev_tmp rfl)) ?_
              refine sq_plain rfl rfl rfl (w_move rfl (ev_tmp rfl)) ?_
              refine sq_plain rfl rfl rfl (w_call rfl Try.call66 rfl (cellAtS_spec _ _ _ (by first | assumption | omega) (by first | assumption | omega)) (evl_cons (ev_tmp rfl) (evl_cons (ev_tmp rfl) (evl_cons (ev_tmp rfl) evl_nil)))) ?_
              refine sq_plain rfl rfl rfl (w_move rfl (ev_tmp rfl)) ?_
              refine sq_plain rfl rfl rfl (w_extract rfl (ev_tmp rfl) rfl) ?_
              refine sq_plain rfl rfl rfl (w_extract rfl (ev_tmp rfl) rfl) ?_
              refine sq_plain rfl rfl rfl (w_extract rfl (ev_tmp rfl) rfl) ?_
              refine sq_plain rfl rfl rfl (w_assign rfl (ev_tmp rfl)) ?_
              refine sq_plain rfl rfl rfl (w_assign rfl (ev_tmp rfl)) ?_
              refine sq_plain rfl rfl rfl (w_assign rfl (ev_tmp rfl)) ?_
              refine sq_nil ?_
              refine awp_seq ?_
              refine awp_region ?_
              refine sq_plain rfl rfl rfl (w_move rfl (ev_tmp rfl)) ?_
              refine sq_callG [] rfl rfl rfl rfl Try.call67 rfl (drawLastTime_own more hb1) (evl_cons (ev_tmp rfl) evl_nil) rfl ?_
              intro x215 ok215
              obtain ⟨⟨l3, k3⟩, hx215⟩ : ∃ z, x215 = z := ⟨_, rfl⟩
              subst hx215
              obtain ⟨hls3, hk3⟩ := ok215
              dsimp only at hls3 hk3 ⊢
              refine sq_plain rfl rfl rfl (w_move rfl (ev_tmp rfl)) ?_
              refine sq_plain rfl rfl rfl (w_extract rfl (ev_tmp rfl) rfl) ?_
              refine sq_plain rfl rfl rfl (w_extract rfl (ev_tmp rfl) rfl) ?_
              refine sq_plain rfl rfl rfl (w_assign rfl (ev_tmp rfl)) ?_
              refine sq_plain rfl rfl rfl (w_assign rfl (ev_tmp rfl)) ?_
              refine sq_nil ?_
              refine awp_seq ?_
              refine awp_region ?_
              refine sq_plain rfl rfl rfl (w_move rfl (ev_tmp rfl)) ?_
              refine sq_plain rfl rfl rfl (w_move rfl (ev_tmp rfl)) ?_
              refine sq_plain rfl rfl rfl (w_call rfl Try.call64 rfl (lastTimeR_spec _ _ (by first | assumption | omega) (by first | assumption | omega)) (evl_cons (ev_tmp rfl) (evl_cons (ev_tmp rfl) evl_nil))) ?_
              refine sq_plain rfl rfl rfl (w_move rfl (ev_tmp rfl)) ?_
              refine sq_plain rfl rfl rfl (w_extract rfl (ev_tmp rfl) rfl) ?_
              refine sq_plain rfl rfl rfl (w_extract rfl (ev_tmp rfl) rfl) ?_
              refine sq_plain rfl rfl rfl (w_assign rfl (ev_tmp rfl)) ?_
              refine sq_plain rfl rfl rfl (w_assign rfl (ev_tmp rfl)) ?_
              refine sq_nil ?_
              refine awp_seq ?_
              refine awp_region ?_
              refine sq_plain rfl rfl rfl (w_move rfl (ev_tmp rfl)) ?_
              refine sq_plain rfl rfl rfl (w_move rfl (ev_tmp rfl)) ?_
              refine sq_plain rfl rfl rfl (w_call rfl Try.call68 rfl (lastTimeS_spec _ _ (by first | assumption | omega) (by first | assumption | omega)) (evl_cons (ev_tmp rfl) (evl_cons (ev_tmp rfl) evl_nil))) ?_
              refine sq_plain rfl rfl rfl (w_move rfl (ev_tmp rfl)) ?_
              refine sq_plain rfl rfl rfl (w_extract rfl (ev_tmp rfl) rfl) ?_
              refine sq_plain rfl rfl rfl (w_extract rfl (ev_tmp rfl) rfl) ?_
              refine sq_plain rfl rfl rfl (w_assign rfl (ev_tmp rfl)) ?_
              refine sq_plain rfl rfl rfl (w_assign rfl (ev_tmp rfl)) ?_
              refine sq_nil ?_
              refine awp_seq ?_
              refine awp_region ?_
              refine sq_plain rfl rfl rfl (w_move rfl (ev_tmp rfl)) ?_
              refine sq_callG [] rfl rfl rfl rfl Try.call69 rfl (drawSameCells_own more hb1) (evl_cons (ev_tmp rfl) evl_nil) rfl ?_
              intro x232 ok232
              obtain ⟨⟨l4, l5⟩, hx232⟩ : ∃ z, x232 = z := ⟨_, rfl⟩
              subst hx232
              obtain ⟨hls4, hls5⟩ := ok232
              dsimp only at hls4 hls5 ⊢
              refine sq_plain rfl rfl rfl (w_move rfl (ev_tmp rfl)) ?_
              refine sq_plain rfl rfl rfl (w_extract rfl (ev_tmp rfl) rfl) ?_
              refine sq_plain rfl rfl rfl (w_extract rfl (ev_tmp rfl) rfl) ?_
              refine sq_plain rfl rfl rfl (w_assign rfl (ev_tmp rfl)) ?_
              refine sq_plain rfl rfl rfl (w_assign rfl (ev_tmp rfl)) ?_
              refine sq_nil ?_
              refine awp_seq ?_
              refine awp_region ?_
              refine sq_plain rfl rfl rfl (w_move rfl (ev_tmp rfl)) ?_
              refine sq_plain rfl rfl rfl (w_move rfl (ev_tmp rfl)) ?_
              refine sq_plain rfl rfl rfl (w_beql rfl Try.underlying4 (ev_tmp rfl) (ev_tmp rfl)) ?_
              refine sq_plain rfl rfl rfl (w_move rfl (ev_tmp rfl)) ?_
              refine sq_grd rfl rfl (guard_t rfl rfl rfl) (fun hc => w_move rfl (ev_tmp rfl)) ?_
              refine sq_grd rfl rfl (guard_t rfl rfl rfl) (fun hc => w_move rfl (ev_tmp rfl)) ?_
              refine sq_grd rfl rfl (guard_t rfl rfl rfl) (fun hc => w_seql rfl (ev_whn rfl hc) (ev_whn rfl hc)) ?_
              refine sq_plain rfl rfl rfl (w_and rfl (ev_tmp rfl) (evif_w rfl)) ?_
              refine sq_plain rfl rfl rfl (w_move rfl (ev_tmp rfl)) ?_
              refine sq_grd rfl rfl (guard_t rfl rfl rfl) (fun hc => w_move rfl (ev_tmp rfl)) ?_
              refine sq_grd rfl rfl (guard_t rfl rfl rfl) (fun hc => w_move rfl (ev_tmp rfl)) ?_
              refine sq_grd rfl rfl (guard_t rfl rfl rfl) (fun hc => w_beql rfl Try.underlying4 (ev_whn rfl hc) (ev_whn rfl hc)) ?_
              refine sq_plain rfl rfl rfl (w_and rfl (ev_tmp rfl) (evif_w rfl)) ?_
              refine sq_plain rfl rfl rfl (w_move rfl (ev_tmp rfl)) ?_
              refine sq_grd rfl rfl (guard_t rfl rfl rfl) (fun hc => w_move rfl (ev_tmp rfl)) ?_
              refine sq_grd rfl rfl (guard_t rfl rfl rfl) (fun hc => w_move rfl (ev_tmp rfl)) ?_
              refine sq_grd rfl rfl (guard_t rfl rfl rfl) (fun hc => w_beql rfl Try.underlying4 (ev_whn rfl hc) (ev_whn rfl hc)) ?_
              refine sq_plain rfl rfl rfl (w_and rfl (ev_tmp rfl) (evif_w rfl)) ?_
              refine sq_plain rfl rfl rfl (w_move rfl (ev_tmp rfl)) ?_
              refine sq_grd rfl rfl (guard_t rfl rfl rfl) (fun hc => w_move rfl (ev_tmp rfl)) ?_
              refine sq_grd rfl rfl (guard_t rfl rfl rfl) (fun hc => w_move rfl (ev_tmp rfl)) ?_
              refine sq_grd rfl rfl (guard_t rfl rfl rfl) (fun hc => w_eql rfl (ev_whn rfl hc) (ev_whn rfl hc)) ?_
              refine sq_plain rfl rfl rfl (w_and rfl (ev_tmp rfl) (evif_w rfl)) ?_
              refine sq_plain rfl rfl rfl (w_move rfl (ev_tmp rfl)) ?_
              refine sq_grd rfl rfl (guard_t rfl rfl rfl) (fun hc => w_move rfl (ev_tmp rfl)) ?_
              refine sq_grd rfl rfl (guard_t rfl rfl rfl) (fun hc => w_move rfl (ev_tmp rfl)) ?_
              refine sq_grd rfl rfl (guard_t rfl rfl rfl) (fun hc => w_call rfl Try.call70 rfl (sameCells_spec _ _) (evl_cons (ev_whn rfl hc) (evl_cons (ev_whn rfl hc) evl_nil))) ?_
              refine sq_grd rfl rfl (guard_t rfl rfl rfl) (fun hc => w_move rfl (ev_tmp rfl)) ?_
              refine sq_grd rfl rfl (guard_t rfl rfl rfl) (fun hc => w_move rfl (ev_tmp rfl)) ?_
              refine sq_grd rfl rfl (guard_t rfl rfl rfl) (fun hc => w_call rfl Try.call48 rfl (sameCellsS_spec _ _ (by first | assumption | omega)) (evl_cons (ev_whn rfl hc) (evl_cons (ev_whn rfl hc) evl_nil))) ?_
              refine sq_grd rfl rfl (guard_t rfl rfl rfl) (fun hc => w_beql rfl Try.underlying4 (ev_whn rfl hc) (ev_whn rfl hc)) ?_
              refine sq_plain rfl rfl rfl (w_and rfl (ev_tmp rfl) (evif_w rfl)) ?_
              refine sq_plain rfl rfl rfl (w_move rfl (ev_tmp rfl)) ?_
              refine sq_grd rfl rfl (guard_t rfl rfl rfl) (fun hc => w_move rfl (ev_tmp rfl)) ?_
              refine sq_grd rfl rfl (guard_t rfl rfl rfl) (fun hc => w_call rfl Try.call71 rfl (goodKey_spec _ (by omega)) (evl_cons (ev_whn rfl hc) evl_nil)) ?_
              refine sq_grd rfl rfl (guard_t rfl rfl rfl) (fun hc => w_move rfl (ev_tmp rfl)) ?_
              refine sq_grd rfl rfl (guard_t rfl rfl rfl) (fun hc => w_call rfl Try.call72 rfl (goodKeyS_spec _ (by first | assumption | omega)) (evl_cons (ev_whn rfl hc) evl_nil)) ?_
              refine sq_grd rfl rfl (guard_t rfl rfl rfl) (fun hc => w_beql rfl Try.underlying4 (ev_whn rfl hc) (ev_whn rfl hc)) ?_
              refine sq_plain rfl rfl rfl (w_and rfl (ev_tmp rfl) (evif_w rfl)) ?_
              refine sq_plain rfl rfl rfl (w_assign rfl (ev_tmp rfl)) ?_
              refine sq_nil ?_
              refine awp_ret ?_
              exact retR rfl (rv_tmp' rfl (by first | rfl | exact congrArg AV.bool (by rw [← cellAtR_eq, ← lastTimeR_eq, goodKey_eq]; simp)))
      · intro h90
        refine awp_skip ?_
        refine awp_seq ?_
        refine awp_region ?_
        refine sq_plain rfl rfl rfl (w_move rfl (ev_tmp rfl)) ?_
        refine sq_callG [] rfl rfl rfl rfl Try.call65 rfl (drawCellAt_own more hb1) (evl_cons (ev_tmp rfl) evl_nil) rfl ?_
        intro x193 ok193
        obtain ⟨⟨l2, k2, t2⟩, hx193⟩ : ∃ z, x193 = z := ⟨_, rfl⟩
        subst hx193
        obtain ⟨hls2, hk2, _⟩ := ok193
        dsimp only at hls2 hk2 ⊢
        refine sq_plain rfl rfl rfl (w_move rfl (ev_tmp rfl)) ?_
        refine sq_plain rfl rfl rfl (w_extract rfl (ev_tmp rfl) rfl) ?_
        refine sq_plain rfl rfl rfl (w_extract rfl (ev_tmp rfl) rfl) ?_
        refine sq_plain rfl rfl rfl (w_extract rfl (ev_tmp rfl) rfl) ?_
        refine sq_plain rfl rfl rfl (w_assign rfl (ev_tmp rfl)) ?_
        refine sq_plain rfl rfl rfl (w_assign rfl (ev_tmp rfl)) ?_
        refine sq_plain rfl rfl rfl (w_assign rfl (ev_tmp rfl)) ?_
        refine sq_nil ?_
        refine awp_seq ?_
        refine awp_region ?_
        refine sq_plain rfl rfl rfl (w_move rfl (ev_tmp rfl)) ?_
        refine sq_plain rfl rfl rfl (w_move rfl (ev_tmp rfl)) ?_
        refine sq_plain rfl rfl rfl (w_move rfl (ev_tmp rfl)) ?_
        refine sq_plain rfl rfl rfl (w_call rfl Try.call52 rfl (cellAtR_spec _ _ _ (by first | assumption | omega) (by first | assumption | omega)) (evl_cons (ev_tmp rfl) (evl_cons (ev_tmp rfl) (evl_cons (ev_tmp rfl) evl_nil)))) ?_
        refine sq_plain rfl rfl rfl (w_move rfl (ev_tmp rfl)) ?_
        refine sq_plain rfl rfl rfl (w_extract rfl (ev_tmp rfl) rfl) ?_
        refine sq_plain rfl rfl rfl (w_extract rfl (ev_tmp rfl) rfl) ?_
        refine sq_plain rfl rfl rfl (w_extract rfl (ev_tmp rfl) rfl) ?_
        refine sq_plain rfl rfl rfl (w_assign rfl (ev_tmp rfl)) ?_
        refine sq_plain rfl rfl rfl (w_assign rfl (ev_tmp rfl)) ?_
        refine sq_plain rfl rfl rfl (w_assign rfl (ev_tmp rfl)) ?_
        refine sq_nil ?_
        refine awp_seq ?_
        refine awp_region ?_
        refine sq_plain rfl rfl rfl (w_move rfl (ev_tmp rfl)) ?_
        refine sq_plain rfl rfl rfl (w_move rfl (ev_tmp rfl)) ?_
        refine sq_plain rfl rfl rfl (w_move rfl (ev_tmp rfl)) ?_
        refine sq_plain rfl rfl rfl (w_call rfl Try.call66 rfl (cellAtS_spec _ _ _ (by first | assumption | omega) (by first | assumption | omega)) (evl_cons (ev_tmp rfl) (evl_cons (ev_tmp rfl) (evl_cons (ev_tmp rfl) evl_nil)))) ?_
        refine sq_plain rfl rfl rfl (w_move rfl (ev_tmp rfl)) ?_
        refine sq_plain rfl rfl rfl (w_extract rfl (ev_tmp rfl) rfl) ?_
        refine sq_plain rfl rfl rfl (w_extract rfl (ev_tmp rfl) rfl) ?_
        refine sq_plain rfl rfl rfl (w_extract rfl (ev_tmp rfl) rfl) ?_
        refine sq_plain rfl rfl rfl (w_assign rfl (ev_tmp rfl)) ?_
        refine sq_plain rfl rfl rfl (w_assign rfl (ev_tmp rfl)) ?_
        refine sq_plain rfl rfl rfl (w_assign rfl (ev_tmp rfl)) ?_
        refine sq_nil ?_
        refine awp_seq ?_
        refine awp_region ?_
        refine sq_plain rfl rfl rfl (w_move rfl (ev_tmp rfl)) ?_
        refine sq_callG [] rfl rfl rfl rfl Try.call67 rfl (drawLastTime_own more hb1) (evl_cons (ev_tmp rfl) evl_nil) rfl ?_
        intro x215 ok215
        obtain ⟨⟨l3, k3⟩, hx215⟩ : ∃ z, x215 = z := ⟨_, rfl⟩
        subst hx215
        obtain ⟨hls3, hk3⟩ := ok215
        dsimp only at hls3 hk3 ⊢
        refine sq_plain rfl rfl rfl (w_move rfl (ev_tmp rfl)) ?_
        refine sq_plain rfl rfl rfl (w_extract rfl (ev_tmp rfl) rfl) ?_
        refine sq_plain rfl rfl rfl (w_extract rfl (ev_tmp rfl) rfl) ?_
        refine sq_plain rfl rfl rfl (w_assign rfl (ev_tmp rfl)) ?_
        refine sq_plain rfl rfl rfl (w_assign rfl (ev_tmp rfl)) ?_
        refine sq_nil ?_
        refine awp_seq ?_
        refine awp_region ?_
        refine sq_plain rfl rfl rfl (w_move rfl (ev_tmp rfl)) ?_
        refine sq_plain rfl rfl rfl (w_move rfl (ev_tmp rfl)) ?_
        refine sq_plain rfl rfl rfl (w_call rfl Try.call64 rfl (lastTimeR_spec _ _ (by first | assumption | omega) (by first | assumption | omega)) (evl_cons (ev_tmp rfl) (evl_cons (ev_tmp rfl) evl_nil))) ?_
        refine sq_plain rfl rfl rfl (w_move rfl (ev_tmp rfl)) ?_
        refine sq_plain rfl rfl rfl (w_extract rfl (ev_tmp rfl) rfl) ?_
        refine sq_plain rfl rfl rfl (w_extract rfl (ev_tmp rfl) rfl) ?_
        refine sq_plain rfl rfl rfl (w_assign rfl (ev_tmp rfl)) ?_
        refine sq_plain rfl rfl rfl (w_assign rfl (ev_tmp rfl)) ?_
        refine sq_nil ?_
        refine awp_seq ?_
        refine awp_region ?_
        refine sq_plain rfl rfl rfl (w_move rfl (ev_tmp rfl)) ?_
        refine sq_plain rfl rfl rfl (w_move rfl (ev_tmp rfl)) ?_
        refine sq_plain rfl rfl rfl (w_call rfl Try.call68 rfl (lastTimeS_spec _ _ (by first | assumption | omega) (by first | assumption | omega)) (evl_cons (ev_tmp rfl) (evl_cons (ev_tmp rfl) evl_nil))) ?_
        refine sq_plain rfl rfl rfl (w_move rfl (ev_tmp rfl)) ?_
        refine sq_plain rfl rfl rfl (w_extract rfl (ev_tmp rfl) rfl) ?_
        refine sq_plain rfl rfl rfl (w_extract rfl (ev_tmp rfl) rfl) ?_
        refine sq_plain rfl rfl rfl (w_assign rfl (ev_tmp rfl)) ?_
        refine sq_plain rfl rfl rfl (w_assign rfl (ev_tmp rfl)) ?_
        refine sq_nil ?_
        refine awp_seq ?_
        refine awp_region ?_
        refine sq_plain rfl rfl rfl (w_move rfl (ev_tmp rfl)) ?_
        refine sq_callG [] rfl rfl rfl rfl Try.call69 rfl (drawSameCells_own more hb1) (evl_cons (ev_tmp rfl) evl_nil) rfl ?_
        intro x232 ok232
        obtain ⟨⟨l4, l5⟩, hx232⟩ : ∃ z, x232 = z := ⟨_, rfl⟩
        subst hx232
        obtain ⟨hls4, hls5⟩ := ok232
        dsimp only at hls4 hls5 ⊢
        refine sq_plain rfl rfl rfl (w_move rfl (ev_tmp rfl)) ?_
        refine sq_plain rfl rfl rfl (w_extract rfl (ev_tmp rfl) rfl) ?_
        refine sq_plain rfl rfl rfl (w_extract rfl (ev_tmp rfl) rfl) ?_
        refine sq_plain rfl rfl rfl (w_assign rfl (ev_tmp rfl)) ?_
        refine sq_plain rfl rfl rfl (w_assign rfl (ev_tmp rfl)) ?_
        refine sq_nil ?_
        refine awp_seq ?_
        refine awp_region ?_
        refine sq_plain rfl rfl rfl (w_move rfl (ev_tmp rfl)) ?_
        refine sq_plain rfl rfl rfl (w_move rfl (ev_tmp rfl)) ?_
        refine sq_plain rfl rfl rfl (w_beql rfl Try.underlying4 (ev_tmp rfl) (ev_tmp rfl)) ?_
        refine sq_plain rfl rfl rfl (w_move rfl (ev_tmp rfl)) ?_
        refine sq_grd rfl rfl (guard_t rfl rfl rfl) (fun hc => w_move rfl (ev_tmp rfl)) ?_
        refine sq_grd rfl rfl (guard_t rfl rfl rfl) (fun hc => w_move rfl (ev_tmp rfl)) ?_
        refine sq_grd rfl rfl (guard_t rfl rfl rfl) (fun hc => w_seql rfl (ev_whn rfl hc) (ev_whn rfl hc)) ?_
        refine sq_plain rfl rfl rfl (w_and rfl (ev_tmp rfl) (evif_w rfl)) ?_
        refine sq_plain rfl rfl rfl (w_move rfl (ev_tmp rfl)) ?_
        refine sq_grd rfl rfl (guard_t rfl rfl rfl) (fun hc => w_move rfl (ev_tmp rfl)) ?_
        refine sq_grd rfl rfl (guard_t rfl rfl rfl) (fun hc => w_move rfl (ev_tmp rfl)) ?_
        refine sq_grd rfl rfl (guard_t rfl rfl rfl) (fun hc => w_beql rfl Try.underlying4 (ev_whn rfl hc) (ev_whn rfl hc)) ?_
        refine sq_plain rfl rfl rfl (w_and rfl (ev_tmp rfl) (evif_w rfl)) ?_
        refine sq_plain rfl rfl rfl (w_move rfl (ev_tmp rfl)) ?_
        refine sq_grd rfl rfl (guard_t rfl rfl rfl) (fun hc => w_move rfl (ev_tmp rfl)) ?_
        refine sq_grd rfl rfl (guard_t rfl rfl rfl) (fun hc => w_move rfl (ev_tmp rfl)) ?_
        refine sq_grd rfl rfl (guard_t rfl rfl rfl) (fun hc => w_beql rfl Try.underlying4 (ev_whn rfl hc) (ev_whn rfl hc)) ?_
        refine sq_plain rfl rfl rfl (w_and rfl (ev_tmp rfl) (evif_w rfl)) ?_
        refine sq_plain rfl rfl rfl (w_move rfl (ev_tmp rfl)) ?_
        refine sq_grd rfl rfl (guard_t rfl rfl rfl) (fun hc => w_move rfl (ev_tmp rfl)) ?_
        refine sq_grd rfl rfl (guard_t rfl rfl rfl) (fun hc => w_move rfl (ev_tmp rfl)) ?_
        refine sq_grd rfl rfl (guard_t rfl rfl rfl) (fun hc => w_eql rfl (ev_whn rfl hc) (ev_whn rfl hc)) ?_
        refine sq_plain rfl rfl rfl (w_and rfl (ev_tmp rfl) (evif_w rfl)) ?_
        refine sq_plain rfl rfl rfl (w_move rfl (ev_tmp rfl)) ?_
        refine sq_grd rfl rfl (guard_t rfl rfl rfl) (fun hc => w_move rfl (ev_tmp rfl)) ?_
        refine sq_grd rfl rfl (guard_t rfl rfl rfl) (fun hc => w_move rfl (ev_tmp rfl)) ?_
        refine sq_grd rfl rfl (guard_t rfl rfl rfl) (fun hc => w_call rfl Try.call70 rfl (sameCells_spec _ _) (evl_cons (ev_whn rfl hc) (evl_cons (ev_whn rfl hc) evl_nil))) ?_
        refine sq_grd rfl rfl (guard_t rfl rfl rfl) (fun hc => w_move rfl (ev_tmp rfl)) ?_
        refine sq_grd rfl rfl (guard_t rfl rfl rfl) (fun hc => w_move rfl (ev_tmp rfl)) ?_
        refine sq_grd rfl rfl (guard_t rfl rfl rfl) (fun hc => w_call rfl Try.call48 rfl (sameCellsS_spec _ _ (by first | assumption | omega)) (evl_cons (ev_whn rfl hc) (evl_cons (ev_whn rfl hc) evl_nil))) ?_
        refine sq_grd rfl rfl (guard_t rfl rfl rfl) (fun hc => w_beql rfl Try.underlying4 (ev_whn rfl hc) (ev_whn rfl hc)) ?_
        refine sq_plain rfl rfl rfl (w_and rfl (ev_tmp rfl) (evif_w rfl)) ?_
        refine sq_plain rfl rfl rfl (w_move rfl (ev_tmp rfl)) ?_
        refine sq_grd rfl rfl (guard_t rfl rfl rfl) (fun hc => w_move rfl (ev_tmp rfl)) ?_
        refine sq_grd rfl rfl (guard_t rfl rfl rfl) (fun hc => w_call rfl Try.call71 rfl (goodKey_spec _ (by omega)) (evl_cons (ev_whn rfl hc) evl_nil)) ?_
        refine sq_grd rfl rfl (guard_t rfl rfl rfl) (fun hc => w_move rfl (ev_tmp rfl)) ?_
        refine sq_grd rfl rfl (guard_t rfl rfl rfl) (fun hc => w_call rfl Try.call72 rfl (goodKeyS_spec _ (by first | assumption | omega)) (evl_cons (ev_whn rfl hc) evl_nil)) ?_
        refine sq_grd rfl rfl (guard_t rfl rfl rfl) (fun hc => w_beql rfl Try.underlying4 (ev_whn rfl hc) (ev_whn rfl hc)) ?_
        refine sq_plain rfl rfl rfl (w_and rfl (ev_tmp rfl) (evif_w rfl)) ?_
        refine sq_plain rfl rfl rfl (w_assign rfl (ev_tmp rfl)) ?_
        refine sq_nil ?_
        refine awp_ret ?_
        exact retR rfl (rv_tmp' rfl (by first | rfl | exact congrArg AV.bool (by rw [← cellAtR_eq, ← lastTimeR_eq, goodKey_eq]; simp)))
end
theorem opens_bytes : Opens Try.prog 22 (List Int) (fun l => [bytesI l]) (fun l => ∀ x ∈ l, (Lit.int .u8 x).wf = true) := opens_slice (sz := 1) Try.underlying22 (by kernel_rfl) (opens_int Try.underlying5) (fun _ => rfl)
set_option maxRecDepth 100000 in
theorem fnCells_lifted (os : Os) (started : os.Started) (H : Type) (enc : TypeId × Value → H) :
    ReturnsInHanded {} Try.checked os 7 .any (Rows.fnCellsSpec.pre6 enc Try.prog Try.f7 Rows.fnCellsRow.domain false) (Rows.fnCellsSpec.post enc Try.prog Try.f7 false true false false) := by
  refine returnsInHanded_of_change (C := Try.checked) (by kernel_rfl) started (by kernel_rfl) Try.func7
    (ChangeSpec.witness6 (enc := enc) (C := Try.checked) false ⟨#[], #[.slice none 0 0, .slice none 0 0], []⟩ 8 (by kernel_rfl) (by kernel_rfl) (by kernel_rfl) (by kernel_rfl)) ?_
  intro W base args ds gs before hval0 hW hcnd _
  have hval : ∀ (j : Nat) t v, Try.f7.params[j]? = some t → args[j]? = some v → Value.okWide Try.prog W .any base t v := hval0
  have hW2 := hW
  obtain ⟨p, q, hA0, hV, rfl, hfz, hnd⟩ := hW
  have hA : DataW.TrodAll enc Try.prog W 0 (fun _ => true) true Try.f7.params.toList args.toList ds p := hA0
  rw [Try.params7] at hA hval
  obtain ⟨v0, vs0, d0, ds0, p0, q0, hargs, rfl, rfl, h0, r0⟩ := trodAll_cons hA
  obtain ⟨v1, vs1, d1, ds1, p1, q1, rfl, rfl, rfl, h1, r1⟩ := trodAll_cons r0
  obtain ⟨rfl, rfl, rfl⟩ := trodAll_nil r1
  obtain rfl : args = #[v0, v1] := by cases args; simp_all
  obtain ⟨rfl, rfl⟩ := trodVars_none hV
  have lt0 : ∀ x ∈ p0, x.block < W.heap.size := by obtain ⟨m, hm⟩ := h0; exact DataW.trod_lt m _ _ _ hm
  obtain ⟨a0, w0, g0⟩ := arg_one (opens_bytes) (by obtain ⟨y1, y2, y3, rfl⟩ := okWide_slice Try.underlying22 (hval 0 22 v0 rfl rfl); rfl) h0
  have lt1 : ∀ x ∈ p1, x.block < W.heap.size := by obtain ⟨m, hm⟩ := h1; exact DataW.trod_lt m _ _ _ hm
  obtain ⟨a1, w1, g1⟩ := arg_one (opens_bytes) (by obtain ⟨y1, y2, y3, rfl⟩ := okWide_slice Try.underlying22 (hval 1 22 v1 rfl rfl); rfl) h1
  have hcall := law_calls (fnCells_spec a0 w0 a1 w1) (DenV.cons g0 (DenV.cons g1 (DenV.nil _)))
  clear hA0 hval0
  refine Calls.mono hcall fun e W2 ⟨he, bel⟩ => ?_
  subst he
  exact ⟨_, rfl, _, _, _, [], _, [], hW2, trodAll_mk1 (shut_bool Try.underlying4 _), (trodAll_cons_mk (Below.trod (by kernel_rfl : laidOutB Try.prog = true) (by kernel_rfl) (of_decide_eq_true (by kernel_rfl)) h0 bel lt0) (trodAll_cons_mk (Below.trod (by kernel_rfl : laidOutB Try.prog = true) (by kernel_rfl) (of_decide_eq_true (by kernel_rfl)) h1 bel lt1) trodAll_mk0)), rfl, bel.frame _, fun h => by cases h⟩
theorem fnCells_and {a b : Bool} (h : a = true) (k : b = true) : (a && b) = true := by rw [h, k]; rfl
set_option maxRecDepth 100000 in
theorem fnCells_facts : joinedFacts Try.pinned.checked.prog 7 Try.f7 Rows.fnCellsSpec Rows.fnCellsRow = true := by
  unfold joinedFacts
  iterate 18 (rw [Bool.and_assoc])
  refine fnCells_and ?_ ?_
  · as_aux_lemma => kernel_rfl
  · as_aux_lemma => kernel_rfl
/-- The statement. -/
theorem fnCells_proved : Rows.FnCellsSaid :=
  OpenClaim.holds_of_wide 7 Try.f7 rfl rfl rfl rfl rfl rfl rfl ⟨rfl, rfl, rfl, rfl, rfl⟩ rfl rfl rfl rfl rfl (by kernel_rfl) Try.func7 fnCells_facts
    (of_decide_eq_true (by kernel_rfl)) (by unfold Func.isWrapper; first | (rw [if_pos (by decide +kernel)]; kernel_rfl) | (rw [if_neg (by decide +kernel)]; exact ⟨rfl, rfl⟩))
    (fun os started H enc _ => fnCells_lifted os started H enc)
end Go.Proofs.Yteliahajeokciaa
