/- FnMoveReads: for all drawn runs of a migration each key reads as the last effective write left it, and one group serves it. No condition. -/
import Derived.Test.YtdbmaekdejhobaaDraw3W
import Derived.Test.YtdbmaekdejhobaaQSameW
import Derived.Test.YtdbmaekdejhobaaReadsM
import Derived.Test.YtdbmaekdejhobaaAvLaw
set_option linter.unusedVariables false
set_option linter.unusedSimpArgs false
set_option maxRecDepth 100000
namespace Go.M
open Go.AV
theorem hasK_next {l : List TWrite} {k : Str} {t : Nat} {y : TWrite} (h : l[t]? = some y) : hasK (l.take (t + 1)) k = (hasK (l.take t) k || y.Key == k) := by
  unfold hasK; rw [List.take_add_one, h, List.any_append]; simp
theorem hasK_end {l : List TWrite} {k : Str} {t : Nat} (h : l.length ≤ t) : hasK (l.take t) k = hasK l k := by rw [List.take_of_length_le h]
theorem playMove_run {m : TMove} {l : List TMoveAct} (h : (playMove m l).2.2 = true) : goodMove m = true ∧ l.length ≤ 30 ∧ playMove m l = (stAt m l l.length, (runS m l).2, true) := by
  unfold playMove at h ⊢
  split at h
  · cases h
  · rename_i hh
    simp only [Bool.or_eq_true, Bool.not_eq_true', decide_eq_true_eq, not_or, Bool.not_eq_false] at hh
    rw [if_neg (by simp [hh.1]; omega), stAt_end, runI_eq hh.1]
    exact ⟨hh.1, by omega, rfl⟩
theorem goodMove_lens {m : TMove} (h : goodMove m = true) : sizeL TWrite.size (rowsOf m) ≤ 262144 ∧ (rowsOf m).length ≤ 24 := by
  obtain ⟨h1, h2⟩ := goodMove_l5 h
  unfold rowsOf; split
  · exact ⟨Nat.le_trans (rows_size h2) (by decide), l5_len h2⟩
  · exact ⟨Nat.le_trans (rows_size h1) (by decide), l5_len h1⟩
theorem rows_of_goodMove {m : TMove} (h : goodMove m = true) : areEnds m.Low m.High = true := (goodMove_rows h).1
def sixKeys : List Str := [[98], [99], [105, 47, 120, 47, 49], [107], [109], [110]]
theorem sixKeys_at {j : Nat} (h : j < 6) : ∃ k, sixKeys[j]? = some k ∧ goodKey k = true ∧ k.length ≤ 64 := by
  match j, h with
  | 0, _ => exact ⟨_, rfl, rfl, by decide⟩
  | 1, _ => exact ⟨_, rfl, rfl, by decide⟩
  | 2, _ => exact ⟨_, rfl, rfl, by decide⟩
  | 3, _ => exact ⟨_, rfl, rfl, by decide⟩
  | 4, _ => exact ⟨_, rfl, rfl, by decide⟩
  | 5, _ => exact ⟨_, rfl, rfl, by decide⟩
theorem sixKeys_get {j : Nat} {k : Str} (h : sixKeys[j]? = some k) : (sixKeys.map fun s => [AV.str s])[j]? = some [AV.str k] := by rw [List.getElem?_map, h]; rfl
end Go.M
namespace Go.Proofs.Ytdbmaekdejhobaa
open Go Go.AV Go.M
open Go.ChangeShapes Go.WideShapes Go.ChangeAt Go.RowKit
section
attribute [local irreducible] OpW OpA OpS AWP FSpec ESpec GSpec OpE RetOk RetOkG RvDen Le Ev GuardIs SrcIs
theorem fnMoveReads_spec (code : List Int) (hc : ∀ x ∈ code, (Lit.int .u8 x).wf = true) (more : List Int) (hm : ∀ x ∈ more, (Lit.int .u8 x).wf = true) : FSpec Try.prog 4 [bytesI code, bytesI more] (AV.bool true) := by
  refine spec_of_awp Try.func4 rfl Try.ntmps4 rfl ?_
  refine awp_len (t := 0) rfl fun hl0 => ?_
  try simp only [List.length_map] at hl0
  refine awp_len (t := 1) rfl fun hl1 => ?_
  try simp only [List.length_map] at hl1
  refine awp_seq ?_
  refine awp_region ?_
  refine sq_plain rfl rfl rfl (w_assign rfl ev_cb) ?_
  refine sq_nil ?_
  refine awp_seq ?_
  refine awp_seq ?_
  refine awp_region ?_
  refine sq_plain rfl rfl rfl (w_move rfl (ev_tmp rfl)) ?_
  refine sq_plain rfl rfl rfl (w_llen rfl Try.underlying22 (ev_tmp rfl)) ?_
  refine sq_plain rfl rfl rfl (w_move rfl (ev_tmp rfl)) ?_
  refine sq_plain rfl rfl rfl (w_llen rfl Try.underlying22 (ev_tmp rfl)) ?_
  refine sq_plain rfl rfl rfl (w_add rfl (ev_tmp rfl) (ev_tmp rfl)) ?_
  refine sq_plain rfl rfl rfl (w_gtr rfl (ev_tmp rfl) ev_ci) ?_
  refine sq_nil ?_
  refine awp_cond (ev_tmp rfl) ?_ ?_
  · intro h41
    have k41 := of_decide_eq_true h41; try simp only [List.length_map] at k41
    refine awp_seq ?_
    refine awp_region ?_
    refine sq_plain rfl rfl rfl (w_assign rfl ev_cb) ?_
    refine sq_nil ?_
    refine awp_ret ?_
    exact retR rfl (rv_tmp' rfl (by first | rfl | (refine congrArg AV.bool ?_; rcases end_from hgn with h9 | h9 <;> simp [h9]; done)))
  · intro h41
    have k41 := of_decide_eq_false h41; try simp only [List.length_map] at k41
    have hb0 : ByteL code := byteL_of hc
    have hb1 : ByteL more := byteL_of hm
    refine awp_skip ?_
    refine awp_seq ?_
    refine awp_region ?_
    refine sq_plain rfl rfl rfl (w_move rfl (ev_tmp rfl)) ?_
    refine sq_callG [] rfl rfl rfl rfl Try.call9 rfl (drawNewMove_own code hb0) (evl_cons (ev_tmp rfl) evl_nil) rfl ?_
    intro x44 ok44
    obtain ⟨a, ha⟩ : ∃ a, x44.1 = a := ⟨_, rfl⟩
    obtain ⟨b, hb⟩ : ∃ b, x44.2.1 = b := ⟨_, rfl⟩
    obtain ⟨l, hl⟩ : ∃ l, x44.2.2.1 = l := ⟨_, rfl⟩
    rw [ha, hb, hl] at ok44
    rw [ha, hb, hl]
    have hll := sizeL_len (f := TWrite.size) (l := l)
    refine sq_plain rfl rfl rfl (w_move rfl (ev_tmp rfl)) ?_
    refine sq_plain rfl rfl rfl (w_extract rfl (ev_tmp rfl) rfl) ?_
    refine sq_plain rfl rfl rfl (w_extract rfl (ev_tmp rfl) rfl) ?_
    refine sq_plain rfl rfl rfl (w_extract rfl (ev_tmp rfl) rfl) ?_
    refine sq_le (le_sealD [0] 47 rfl rfl (lt_arr (List.mem_of_getElem? (i := 0) rfl) le_refl_e) gin_false) ?_
    refine sq_plain rfl rfl rfl (w_assign rfl (ev_tmp rfl)) ?_
    refine sq_plain rfl rfl rfl (w_assign rfl (ev_tmp rfl)) ?_
    refine sq_plain rfl rfl rfl (w_assign rfl (ev_tmp rfl)) ?_
    refine sq_nil ?_
    refine awp_seq ?_
    refine awp_region ?_
    refine sq_plain rfl rfl rfl (w_move rfl (ev_tmp rfl)) ?_
    refine sq_callG [] rfl rfl rfl rfl Try.call17 rfl (drawPlayMove_own more hb1) (evl_cons (ev_tmp rfl) evl_nil) rfl ?_
    intro x50 ok50
    obtain ⟨acts, hacts⟩ : ∃ acts, x50.2.1 = acts := ⟨_, rfl⟩
    rw [hacts] at ok50
    rw [hacts]
    have hal := sizeL_len (f := TMoveAct.size) (l := acts)
    refine sq_plain rfl rfl rfl (w_move rfl (ev_tmp rfl)) ?_
    refine sq_plain rfl rfl rfl (w_extract rfl (ev_tmp rfl) rfl) ?_
    refine sq_plain rfl rfl rfl (w_extract rfl (ev_tmp rfl) rfl) ?_
    refine sq_le (le_sealD [0, 0] 51 rfl rfl (lt_agg (lc_cons lt_refl (lc_cons lt_refl (lc_cons lt_refl (lc_cons (lt_arr (List.mem_of_getElem? (i := 0) rfl) le_refl_e) (lc_cons (lt_arr (List.mem_of_getElem? (i := 1) rfl) le_refl_e) (lc_cons lt_refl (lc_cons lt_refl lc_nil)))))))) gin_false) ?_
    refine sq_le (le_sealD [0] 52 rfl rfl (lt_arr (List.mem_of_getElem? (i := 0) rfl) le_refl_e) gin_false) ?_
    refine sq_alloc rfl rfl rfl rfl Try.zeroValue27 rfl ?_
    intro b8
    refine sq_storeB0 0 rfl rfl rfl (ev_tmp rfl) (ev_tmp rfl) (as_agg _) rfl Try.sizeOf27 rfl ?_
    refine sq_plain rfl rfl rfl (w_assign rfl (ev_tmp rfl)) ?_
    refine sq_nil ?_
    refine awp_seq ?_
    refine awp_region ?_
    refine sq_plain rfl rfl rfl (w_move rfl (ev_tmp rfl)) ?_
    refine sq_plain rfl rfl rfl (w_move rfl (ev_tmp rfl)) ?_
    refine sq_plain rfl rfl rfl (w_move rfl (ev_tmp rfl)) ?_
    refine sq_callG [] rfl rfl rfl rfl Try.call10 rfl (newMove_own a b l (by omega) (by omega) (by omega)) (evl_cons (ev_tmp rfl) (evl_cons (ev_tmp rfl) (evl_cons (ev_tmp rfl) evl_nil))) rfl ?_
    intro x57 ok57
    refine sq_plain rfl rfl rfl (w_move rfl (ev_tmp rfl)) ?_
    refine sq_plain rfl rfl rfl (w_extract rfl (ev_tmp rfl) rfl) ?_
    refine sq_plain rfl rfl rfl (w_extract rfl (ev_tmp rfl) rfl) ?_
    refine sq_le (le_sealD [0, 0] 58 rfl rfl (lt_agg (lc_cons lt_refl (lc_cons lt_refl (lc_cons lt_refl (lc_cons (lt_arr (List.mem_of_getElem? (i := 0) rfl) le_refl_e) (lc_cons (lt_arr (List.mem_of_getElem? (i := 1) rfl) le_refl_e) (lc_cons lt_refl (lc_cons lt_refl lc_nil)))))))) gin_false) ?_
    refine sq_alloc rfl rfl rfl rfl Try.zeroValue27 rfl ?_
    intro b10
    refine sq_storeB0 0 rfl rfl rfl (ev_tmp rfl) (ev_tmp rfl) (as_agg _) rfl Try.sizeOf27 rfl ?_
    refine sq_plain rfl rfl rfl (w_assign rfl (ev_tmp rfl)) ?_
    refine sq_nil ?_
    refine awp_seq ?_
    refine awp_region ?_
    refine sq_plain rfl rfl rfl (w_move rfl (ev_tmp rfl)) ?_
    refine sq_plain rfl rfl rfl (w_move rfl (ev_tmp rfl)) ?_
    refine sq_plain rfl rfl rfl (w_move rfl (ev_tmp rfl)) ?_
    refine sq_plain rfl rfl rfl (w_call rfl Try.call14 rfl (newMoveS_spec a b l (by omega) (by omega) (by omega)) (evl_cons (ev_tmp rfl) (evl_cons (ev_tmp rfl) (evl_cons (ev_tmp rfl) evl_nil)))) ?_
    refine sq_plain rfl rfl rfl (w_move rfl (ev_tmp rfl)) ?_
    refine sq_plain rfl rfl rfl (w_extract rfl (ev_tmp rfl) rfl) ?_
    refine sq_plain rfl rfl rfl (w_extract rfl (ev_tmp rfl) rfl) ?_
    refine sq_alloc rfl rfl rfl rfl Try.zeroValue27 rfl ?_
    intro b12
    refine sq_storeB0 0 rfl rfl rfl (ev_tmp rfl) (ev_tmp rfl) (as_agg _) rfl Try.sizeOf27 rfl ?_
    refine sq_plain rfl rfl rfl (w_assign rfl (ev_tmp rfl)) ?_
    refine sq_nil ?_
    refine awp_seq ?_
    refine awp_seq ?_
    refine awp_region ?_
    refine sq_plain rfl rfl rfl (w_move rfl (ev_tmp rfl)) ?_
    refine sq_plain rfl rfl rfl (w_move rfl (ev_tmp rfl)) ?_
    refine sq_plain rfl rfl rfl (w_bneq rfl Try.underlying4 (ev_tmp rfl) (ev_tmp rfl)) ?_
    refine sq_plain rfl rfl rfl (w_move rfl (ev_tmp rfl)) ?_
    refine sq_grd rfl rfl (guard_f rfl rfl rfl) (fun hc => w_loadA 1 rfl (ev_tmp rfl) rfl Try.isAgg27 Try.sizeOf27 rfl) ?_
    refine sq_grd rfl rfl (guard_f rfl rfl rfl) (fun hc => w_loadA 0 rfl (ev_tmp rfl) rfl Try.isAgg27 Try.sizeOf27 rfl) ?_
    refine sq_grd rfl rfl (guard_f rfl rfl rfl) (fun hc => w_call rfl Try.call18 rfl (qSameM_spec _ _) (evl_cons (ev_whn rfl hc) (evl_cons (ev_whn rfl hc) evl_nil))) ?_
    refine sq_grd rfl rfl (guard_f rfl rfl rfl) (fun hc => w_not rfl (ev_whn rfl hc)) ?_
    refine sq_plain rfl rfl rfl (w_or rfl (ev_tmp rfl) (evif_w rfl)) ?_
    refine sq_nil ?_
    refine awp_cond (ev_tmp rfl) ?_ ?_
    · intro h75
      exfalso; rw [newMove_eq] at h75; simp at h75
    · intro h75
      refine awp_skip ?_
      refine awp_seq ?_
      refine awp_seq ?_
      refine awp_region ?_
      refine sq_plain rfl rfl rfl (w_move rfl (ev_tmp rfl)) ?_
      refine sq_plain rfl rfl rfl (w_not rfl (ev_tmp rfl)) ?_
      refine sq_nil ?_
      refine awp_cond (ev_tmp rfl) ?_ ?_
      · intro h77
        refine awp_seq ?_
        refine awp_region ?_
        refine sq_plain rfl rfl rfl (w_assign rfl ev_cb) ?_
        refine sq_nil ?_
        refine awp_ret ?_
        exact retR rfl (rv_tmp' rfl (by first | rfl | (refine congrArg AV.bool ?_; rcases end_from hgn with h9 | h9 <;> simp [h9]; done)))
      · intro h77
        obtain ⟨hn1, hn2⟩ := newMove_ok (a := a) (b := b) (l := l) (by simpa using h77)
        rw [hn1]
        have hms : (mkMove a b l).size ≤ 1048576 := Nat.le_trans (goodMove_size hn2) (by decide)
        have has : sizeL TMoveAct.size acts ≤ 1048576 := by omega
        refine awp_skip ?_
        refine awp_seq ?_
        refine awp_region ?_
        refine sq_plain rfl rfl rfl (w_loadA 1 rfl (ev_tmp rfl) rfl Try.isAgg27 Try.sizeOf27 rfl) ?_
        refine sq_plain rfl rfl rfl (w_move rfl (ev_tmp rfl)) ?_
        refine sq_callG [] rfl rfl rfl rfl Try.call19 rfl (playMove_own (mkMove a b l) acts hms has) (evl_cons (ev_tmp rfl) (evl_cons (ev_tmp rfl) evl_nil)) rfl ?_
        intro x81 ok81
        refine sq_plain rfl rfl rfl (w_move rfl (ev_tmp rfl)) ?_
        refine sq_plain rfl rfl rfl (w_extract rfl (ev_tmp rfl) rfl) ?_
        refine sq_plain rfl rfl rfl (w_extract rfl (ev_tmp rfl) rfl) ?_
        refine sq_plain rfl rfl rfl (w_extract rfl (ev_tmp rfl) rfl) ?_
        refine sq_le (le_sealD [0, 0] 82 rfl rfl (lt_agg (lc_cons lt_refl (lc_cons lt_refl (lc_cons lt_refl (lc_cons (lt_arr (List.mem_of_getElem? (i := 0) rfl) le_refl_e) (lc_cons (lt_arr (List.mem_of_getElem? (i := 1) rfl) le_refl_e) (lc_cons lt_refl (lc_cons lt_refl lc_nil)))))))) gin_false) ?_
        refine sq_le (le_sealD [0] 83 rfl rfl (lt_arr (List.mem_of_getElem? (i := 0) rfl) le_refl_e) gin_false) ?_
        refine sq_own (by first | (simp only [TMove.ow, TMove.ocs, boolO, pick, List.eraseIdx_cons_zero, List.eraseIdx_cons_succ, List.set_cons_zero, List.set_cons_succ, List.cons_append, List.nil_append, List.getElem?_cons_zero, List.getElem?_cons_succ, List.append_nil]; exact rfl) | exact rfl) ?_
        refine sq_alloc rfl rfl rfl rfl Try.zeroValue27 rfl ?_
        intro b14
        refine sq_storeB0 0 rfl rfl rfl (ev_tmp rfl) (ev_tmp rfl) (as_agg _) rfl Try.sizeOf27 rfl ?_
        refine sq_plain rfl rfl rfl (w_assign rfl (ev_tmp rfl)) ?_
        refine sq_plain rfl rfl rfl (w_assign rfl (ev_tmp rfl)) ?_
        refine sq_nil ?_
        refine awp_seq ?_
        refine awp_region ?_
        refine sq_plain rfl rfl rfl (w_loadA 2 rfl (ev_tmp rfl) rfl Try.isAgg27 Try.sizeOf27 rfl) ?_
        refine sq_plain rfl rfl rfl (w_move rfl (ev_tmp rfl)) ?_
        refine sq_plain rfl rfl rfl (w_call rfl Try.call20 rfl (playMoveS_spec (mkMove a b l) acts hms has) (evl_cons (ev_tmp rfl) (evl_cons (ev_tmp rfl) evl_nil))) ?_
        refine sq_plain rfl rfl rfl (w_move rfl (ev_tmp rfl)) ?_
        refine sq_plain rfl rfl rfl (w_extract rfl (ev_tmp rfl) rfl) ?_
        refine sq_plain rfl rfl rfl (w_extract rfl (ev_tmp rfl) rfl) ?_
        refine sq_plain rfl rfl rfl (w_extract rfl (ev_tmp rfl) rfl) ?_
        refine sq_alloc rfl rfl rfl rfl Try.zeroValue27 rfl ?_
        intro b17
        refine sq_storeB0 0 rfl rfl rfl (ev_tmp rfl) (ev_tmp rfl) (as_agg _) rfl Try.sizeOf27 rfl ?_
        refine sq_plain rfl rfl rfl (w_assign rfl (ev_tmp rfl)) ?_
        refine sq_plain rfl rfl rfl (w_assign rfl (ev_tmp rfl)) ?_
        refine sq_nil ?_
        refine awp_seq ?_
        refine awp_seq ?_
        refine awp_region ?_
        refine sq_plain rfl rfl rfl (w_move rfl (ev_tmp rfl)) ?_
        refine sq_plain rfl rfl rfl (w_move rfl (ev_tmp rfl)) ?_
        refine sq_plain rfl rfl rfl (w_bneq rfl Try.underlying4 (ev_tmp rfl) (ev_tmp rfl)) ?_
        refine sq_plain rfl rfl rfl (w_move rfl (ev_tmp rfl)) ?_
        refine sq_grd rfl rfl (guard_f rfl rfl rfl) (fun hc => w_move rfl (ev_tmp rfl)) ?_
        refine sq_grd rfl rfl (guard_f rfl rfl rfl) (fun hc => w_move rfl (ev_tmp rfl)) ?_
        refine sq_grd rfl rfl (guard_f rfl rfl rfl) (fun hc => w_call rfl Try.call21 rfl (qSameB_spec _ _) (evl_cons (ev_whn rfl hc) (evl_cons (ev_whn rfl hc) evl_nil))) ?_
        refine sq_grd rfl rfl (guard_f rfl rfl rfl) (fun hc => w_not rfl (ev_whn rfl hc)) ?_
        refine sq_plain rfl rfl rfl (w_or rfl (ev_tmp rfl) (evif_w rfl)) ?_
        refine sq_plain rfl rfl rfl (w_move rfl (ev_tmp rfl)) ?_
        refine sq_grd rfl rfl (guard_f rfl rfl rfl) (fun hc => w_loadA 1 rfl (ev_tmp rfl) rfl Try.isAgg27 Try.sizeOf27 rfl) ?_
        refine sq_grd rfl rfl (guard_f rfl rfl rfl) (fun hc => w_loadA 0 rfl (ev_tmp rfl) rfl Try.isAgg27 Try.sizeOf27 rfl) ?_
        refine sq_grd rfl rfl (guard_f rfl rfl rfl) (fun hc => w_call rfl Try.call18 rfl (qSameM_spec _ _) (evl_cons (ev_whn rfl hc) (evl_cons (ev_whn rfl hc) evl_nil))) ?_
        refine sq_grd rfl rfl (guard_f rfl rfl rfl) (fun hc => w_not rfl (ev_whn rfl hc)) ?_
        refine sq_plain rfl rfl rfl (w_or rfl (ev_tmp rfl) (evif_w rfl)) ?_
        refine sq_nil ?_
        refine awp_cond (ev_tmp rfl) ?_ ?_
        · intro h106
          exfalso; rw [playMove_eq] at h106; simp at h106
        · intro h106
          refine awp_skip ?_
          refine awp_seq ?_
          refine awp_seq ?_
          refine awp_region ?_
          refine sq_plain rfl rfl rfl (w_move rfl (ev_tmp rfl)) ?_
          refine sq_plain rfl rfl rfl (w_not rfl (ev_tmp rfl)) ?_
          refine sq_nil ?_
          refine awp_cond (ev_tmp rfl) ?_ ?_
          · intro h108
            refine awp_seq ?_
            refine awp_region ?_
            refine sq_plain rfl rfl rfl (w_assign rfl ev_cb) ?_
            refine sq_nil ?_
            refine awp_ret ?_
            exact retR rfl (rv_tmp' rfl (by first | rfl | (refine congrArg AV.bool ?_; rcases end_from hgn with h9 | h9 <;> simp [h9]; done)))
          · intro h108
            obtain ⟨_, hp30, hpe⟩ := playMove_run (m := mkMove a b l) (l := acts) (by simpa using h108)
            rw [hpe]
            have hok : ∀ i, runOk a b (stAt (mkMove a b l) acts i) := stAt_ok ⟨hn2, mk_copied hn2, rfl, rfl⟩ acts
            have hr0 : l = rowsOf (stAt (mkMove a b l) acts 0) := rfl
            refine awp_skip ?_
            refine awp_seq ?_
            refine awp_region ?_
            refine sq_plain rfl rfl rfl (w_move rfl (ev_tmp rfl)) ?_
            refine sq_plain rfl rfl rfl (w_assign rfl (ev_tmp rfl)) ?_
            refine sq_nil ?_
            refine awp_seq ?_
            refine awp_seq ?_
            refine awp_region ?_
            refine sq_plain rfl rfl rfl (w_move rfl (ev_tmp rfl)) ?_
            refine sq_plain rfl rfl rfl (w_llen rfl Try.underlying42 (ev_tmp rfl)) ?_
            refine sq_plain rfl rfl rfl (w_move rfl ev_ci) ?_
            refine sq_nil ?_
            refine awp_block ?_
            refine awp_loop_i [(5, _), (6, _), (14, _), (15, _), (110, _), (111, _)] _ (fun (i : Nat) => i ≤ acts.length) (fun (i : Nat) => []) (fun (i : Nat) => [(20, AV.list 3 ((rowsOf (stAt (mkMove a b l) acts i)).map TWrite.cs)), (112, AV.int i)]) (fun (i : Nat) => acts.length - i) (0) ?_ (le_env ⟨rfl, rfl, rfl, rfl, rfl, rfl, rfl, rfl, trivial⟩) ?_
            · exact Nat.zero_le _
            intro i hinv
            refine awp_seq ?_
            refine awp_region ?_
            refine sq_plain rfl rfl rfl (w_lss rfl (ev_tmp rfl) (ev_tmp rfl)) ?_
            refine sq_nil ?_
            refine awp_seq ?_
            refine awp_cond (ev_tmp rfl) ?_ ?_
            · intro h113
              have k113 := of_decide_eq_true h113; try simp only [List.length_map] at k113
              have hlt : i < acts.length := by omega
              obtain ⟨x, hx⟩ := get_some hlt
              have hd := runS_did (mkMove a b l) acts hx
              obtain ⟨hq1, hq2, hq3⟩ := oneS_rows x (hok i)
              have hnx := runS_take (mkMove a b l) acts i x hx
              rw [← hnx] at hq2 hq3
              refine awp_skip ?_
              refine awp_seq ?_
              refine awp_block ?_
              refine awp_seq ?_
              refine awp_region ?_
              refine sq_plain rfl rfl rfl (w_move rfl (ev_tmp rfl)) ?_
              refine sq_plain rfl rfl rfl (w_idxm rfl Try.underlying42 Try.sizeOf39 (ev_tmp rfl) (ev_tmp rfl) hx (by first | omega | ((try simp only [List.length_map, List.length_take, List.length_cons, List.length_nil, chunks_len, szR] at *); omega) | (have hc2 := hc; simp only [Bool.and_eq_true, Bool.or_eq_true, Bool.or_eq_false_iff, Bool.and_eq_false_iff, Bool.not_eq_true', Bool.not_eq_false', decide_eq_true_eq, decide_eq_false_iff_not, beq_iff_eq, bne_iff_ne, List.length_map, List.length_take] at hc2; omega))) ?_
              refine sq_plain rfl rfl rfl (w_loadE rfl (ev_tmp rfl) Try.isAgg39 Try.sizeOf39) ?_
              refine sq_alloc rfl rfl rfl rfl Try.zeroValue39 rfl ?_
              intro b22
              refine sq_plain rfl rfl rfl (w_assign rfl (ev_tmp rfl)) ?_
              refine sq_storeB0 0 rfl rfl rfl (ev_tmp rfl) (ev_tmp rfl) (as_agg _) rfl Try.sizeOf39 rfl ?_
              refine sq_nil ?_
              refine awp_seq ?_
              refine awp_region ?_
              refine sq_plain rfl rfl rfl (w_fldBn 0 rfl Try.underlying39 rfl Try.sizeOf3 (ev_tmp rfl) rfl) ?_
              refine sq_plain rfl rfl rfl (w_loadB1 0 rfl (ev_tmp rfl) rfl Try.isAgg3 rfl) ?_
              refine sq_plain rfl rfl rfl (w_eql rfl (ev_tmp rfl) ev_ci) ?_
              refine sq_plain rfl rfl rfl (w_move rfl (ev_tmp rfl)) ?_
              refine sq_grd rfl rfl (guard_t rfl rfl rfl) (fun hc => w_move rfl (ev_tmp rfl)) ?_
              refine sq_grd rfl rfl (guard_t rfl rfl rfl) (fun hc => w_move rfl (ev_tmp rfl)) ?_
              refine sq_grd rfl rfl (guard_t rfl rfl rfl) (fun hc => w_idxm rfl Try.underlying46 Try.sizeOf4 (ev_whn rfl hc) (ev_whn rfl hc) hd (by first | omega | ((try simp only [List.length_map, List.length_take, List.length_cons, List.length_nil, chunks_len, szR] at *); omega) | (have hc2 := hc; simp only [Bool.and_eq_true, Bool.or_eq_true, Bool.or_eq_false_iff, Bool.and_eq_false_iff, Bool.not_eq_true', Bool.not_eq_false', decide_eq_true_eq, decide_eq_false_iff_not, beq_iff_eq, bne_iff_ne, List.length_map, List.length_take] at hc2; omega))) ?_
              refine sq_grd rfl rfl (guard_t rfl rfl rfl) (fun hc => w_loadE1 rfl (ev_whn rfl hc) Try.isAgg4 rfl) ?_
              refine sq_plain rfl rfl rfl (w_and rfl (ev_tmp rfl) (evif_w rfl)) ?_
              refine sq_nil ?_
              refine awp_cond (ev_tmp rfl) ?_ ?_
              · intro h125
                have hput := hq2 (by simpa using h125)
                refine awp_seq ?_
                refine awp_region ?_
                refine sq_plain rfl rfl rfl (w_move rfl (ev_tmp rfl)) ?_
                refine sq_plain rfl rfl rfl (w_fldBn 1 rfl Try.underlying39 rfl Try.sizeOf37 (ev_tmp rfl) rfl) ?_
                refine sq_plain rfl rfl rfl (w_loadAP x.Write.cs 0 rfl (ev_tmp rfl) rfl Try.isAgg37 Try.sizeOf37 rfl rfl) ?_
                refine sq_plain rfl rfl rfl (w_bslice rfl Try.underlying23 Try.sizeOf37 Try.zeroValue37 rfl rfl rfl rfl (bp_cons (ev_tmp rfl) (as_agg _) bp_nil) rfl rfl) ?_
                refine sq_callG [] rfl rfl rfl rfl Try.call22 rfl (putRowsS_own (rowsOf (stAt (mkMove a b l) acts i)) [x.Write] (goodMove_lens (hok i).1).1 (by have h9 : TMoveAct.size x ≤ sizeL TMoveAct.size acts := sizeL_get hx; have h8 : x.size = x.Write.size := rfl; rw [h8] at h9; simp [sizeL]; omega)) (evl_cons (ev_tmp rfl) (evl_cons (ev_tmp rfl) evl_nil)) rfl ?_
                intro x131 ok131
                rw [hput]
                refine sq_plain rfl rfl rfl (w_move rfl (ev_tmp rfl)) ?_
                refine sq_plain rfl rfl rfl (w_extract rfl (ev_tmp rfl) rfl) ?_
                refine sq_plain rfl rfl rfl (w_extract rfl (ev_tmp rfl) rfl) ?_
                refine sq_le (le_sealD [0] 132 rfl rfl (lt_arr (List.mem_of_getElem? (i := 0) rfl) le_refl_e) gin_false) ?_
                refine sq_plain rfl rfl rfl (w_assign rfl (ev_tmp rfl)) ?_
                refine sq_plain rfl rfl rfl (w_assign rfl (ev_tmp rfl)) ?_
                refine sq_nil ?_
                refine awp_seq ?_
                refine awp_seq ?_
                refine awp_region ?_
                refine sq_plain rfl rfl rfl (w_move rfl (ev_tmp rfl)) ?_
                refine sq_plain rfl rfl rfl (w_not rfl (ev_tmp rfl)) ?_
                refine sq_nil ?_
                refine awp_cond (ev_tmp rfl) ?_ ?_
                · intro h135
                  simp at h135
                · intro h135
                  refine awp_skip ?_
                  refine awp_region ?_
                  refine sq_plain rfl rfl rfl (w_move rfl (ev_tmp rfl)) ?_
                  refine sq_plain rfl rfl rfl (w_assign rfl (ev_tmp rfl)) ?_
                  refine sq_nil ?_
                  refine awp_region ?_
                  refine sq_plain rfl rfl rfl (w_addi rfl (ev_tmp rfl) ev_ci (by first | omega | ((try simp only [List.length_map, List.length_take, List.length_cons, List.length_nil, chunks_len, szR] at *); omega) | (have hc2 := hc; simp only [Bool.and_eq_true, Bool.or_eq_true, Bool.or_eq_false_iff, Bool.and_eq_false_iff, Bool.not_eq_true', Bool.not_eq_false', decide_eq_true_eq, decide_eq_false_iff_not, beq_iff_eq, bne_iff_ne, List.length_map, List.length_take] at hc2; omega))) ?_
                  refine sq_plain rfl rfl rfl (w_move rfl (ev_tmp rfl)) ?_
                  refine sq_nil ?_
                  refine round_end i (i + 1) ?_ ?_ (le_drop 1 ⟨rfl, rfl, rfl, rfl, rfl, rfl, rfl, rfl, trivial⟩)
                  · omega
                  · omega
              · intro h125
                rw [← hq3 (by simpa using h125)]
                refine awp_skip ?_
                refine awp_region ?_
                refine sq_plain rfl rfl rfl (w_addi rfl (ev_tmp rfl) ev_ci (by first | omega | ((try simp only [List.length_map, List.length_take, List.length_cons, List.length_nil, chunks_len, szR] at *); omega) | (have hc2 := hc; simp only [Bool.and_eq_true, Bool.or_eq_true, Bool.or_eq_false_iff, Bool.and_eq_false_iff, Bool.not_eq_true', Bool.not_eq_false', decide_eq_true_eq, decide_eq_false_iff_not, beq_iff_eq, bne_iff_ne, List.length_map, List.length_take] at hc2; omega))) ?_
                refine sq_plain rfl rfl rfl (w_move rfl (ev_tmp rfl)) ?_
                refine sq_nil ?_
                refine round_end i (i + 1) ?_ ?_ (le_drop 1 ⟨rfl, rfl, rfl, rfl, rfl, rfl, rfl, rfl, trivial⟩)
                · omega
                · omega
            · intro h113
              have k113 := of_decide_eq_false h113; try simp only [List.length_map] at k113
              obtain rfl : i = acts.length := by omega
              have hgn := (hok acts.length).1
              have hLn := (hok acts.length).2.2.1
              have hHn := (hok acts.length).2.2.2
              obtain ⟨n, hn⟩ : ∃ n, stAt (mkMove a b l) acts acts.length = n := ⟨_, rfl⟩
              rw [hn] at hgn hLn hHn
              rw [hn]
              have hns : n.size ≤ 1048576 := Nat.le_trans (goodMove_size hgn) (by decide)
              obtain ⟨hsr, hlr⟩ := goodMove_lens hgn
              refine awp_exit ?_
              refine awp_seq ?_
              refine awp_seq ?_
              refine awp_region ?_
              refine sq_plain rfl rfl rfl (w_bslice rfl Try.underlying52 Try.sizeOf9 Try.zeroValue9 rfl rfl rfl rfl (bp_cons (ev_cs' (l := [98]) rfl) (as_str _) (bp_cons (ev_cs' (l := [99]) rfl) (as_str _) (bp_cons (ev_cs' (l := [105, 47, 120, 47, 49]) rfl) (as_str _) (bp_cons (ev_cs' (l := [107]) rfl) (as_str _) (bp_cons (ev_cs' (l := [109]) rfl) (as_str _) (bp_cons (ev_cs' (l := [110]) rfl) (as_str _) bp_nil)))))) rfl rfl) ?_
              refine sq_plain rfl rfl rfl (w_llen rfl Try.underlying52 (ev_tmp rfl)) ?_
              refine sq_plain rfl rfl rfl (w_move rfl ev_ci) ?_
              refine sq_nil ?_
              refine awp_block ?_
              refine awp_loop_i [(5, _), (6, _), (14, _), (20, _), (138, _), (139, _)] _ (fun (j : Nat) => j ≤ 6) (fun (j : Nat) => []) (fun (j : Nat) => [(140, AV.int j)]) (fun (j : Nat) => 6 - j) (0) ?_ (le_env ⟨rfl, rfl, rfl, rfl, rfl, rfl, rfl, trivial⟩) ?_
              · exact Nat.zero_le _
              intro j hinv
              refine awp_seq ?_
              refine awp_region ?_
              refine sq_plain rfl rfl rfl (w_lss rfl (ev_tmp rfl) (ev_tmp rfl)) ?_
              refine sq_nil ?_
              refine awp_seq ?_
              refine awp_cond (ev_tmp rfl) ?_ ?_
              · intro h141
                have k141 := of_decide_eq_true h141; try simp only [List.length_map] at k141
                have hj : j < 6 := by have h9 : ((j : Nat) : Int) < ((6 : Nat) : Int) := k141; omega
                obtain ⟨k, hk, hgk, hkl⟩ := sixKeys_at hj
                have hke := sixKeys_get hk
                obtain ⟨r1, r2⟩ := read_ok hgn hgk
                have hw := within_ok (rows_of_goodMove hgn) hgk
                rw [hLn, hHn] at hw r1
                refine awp_skip ?_
                refine awp_seq ?_
                refine awp_block ?_
                refine awp_seq ?_
                refine awp_region ?_
                refine sq_plain rfl rfl rfl (w_idx rfl Try.underlying52 Try.sizeOf9 (ev_tmp rfl) (ev_tmp rfl) (by omega) hke) ?_
                refine sq_plain rfl rfl rfl (w_loadE1 rfl (ev_tmp rfl) Try.isAgg9 rfl) ?_
                refine sq_plain rfl rfl rfl (w_assign rfl (ev_tmp rfl)) ?_
                refine sq_nil ?_
                refine awp_seq ?_
                refine awp_region ?_
                refine sq_plain rfl rfl rfl (w_loadA 1 rfl (ev_tmp rfl) rfl Try.isAgg27 Try.sizeOf27 rfl) ?_
                refine sq_plain rfl rfl rfl (w_move rfl (ev_tmp rfl)) ?_
                refine sq_plain rfl rfl rfl (w_call rfl Try.call12 rfl (readMove_spec n k hns (by omega)) (evl_cons (ev_tmp rfl) (evl_cons (ev_tmp rfl) evl_nil))) ?_
                refine sq_plain rfl rfl rfl (w_move rfl (ev_tmp rfl)) ?_
                refine sq_plain rfl rfl rfl (w_extract rfl (ev_tmp rfl) rfl) ?_
                refine sq_plain rfl rfl rfl (w_extract rfl (ev_tmp rfl) rfl) ?_
                refine sq_plain rfl rfl rfl (w_extract rfl (ev_tmp rfl) rfl) ?_
                refine sq_plain rfl rfl rfl (w_extract rfl (ev_tmp rfl) rfl) ?_
                refine sq_plain rfl rfl rfl (w_assign rfl (ev_tmp rfl)) ?_
                refine sq_plain rfl rfl rfl (w_assign rfl (ev_tmp rfl)) ?_
                refine sq_plain rfl rfl rfl (w_assign rfl (ev_tmp rfl)) ?_
                refine sq_plain rfl rfl rfl (w_assign rfl (ev_tmp rfl)) ?_
                refine sq_nil ?_
                refine awp_seq ?_
                refine awp_region ?_
                refine sq_plain rfl rfl rfl (w_move rfl (ev_tmp rfl)) ?_
                refine sq_plain rfl rfl rfl (w_move rfl (ev_tmp rfl)) ?_
                refine sq_plain rfl rfl rfl (w_move rfl (ev_tmp rfl)) ?_
                refine sq_plain rfl rfl rfl (w_call rfl Try.call23 rfl (isWithinS_spec _ _ _ (by omega) (by omega) (by omega)) (evl_cons (ev_tmp rfl) (evl_cons (ev_tmp rfl) (evl_cons (ev_tmp rfl) evl_nil)))) ?_
                rw [hw]
                refine sq_plain rfl rfl rfl (w_move rfl (ev_tmp rfl)) ?_
                refine sq_plain rfl rfl rfl (w_extract rfl (ev_tmp rfl) rfl) ?_
                refine sq_plain rfl rfl rfl (w_extract rfl (ev_tmp rfl) rfl) ?_
                refine sq_plain rfl rfl rfl (w_assign rfl (ev_tmp rfl)) ?_
                refine sq_plain rfl rfl rfl (w_assign rfl (ev_tmp rfl)) ?_
                refine sq_nil ?_
                refine awp_seq ?_
                refine awp_seq ?_
                refine awp_region ?_
                refine sq_plain rfl rfl rfl (w_move rfl (ev_tmp rfl)) ?_
                refine sq_plain rfl rfl rfl (w_not rfl (ev_tmp rfl)) ?_
                refine sq_plain rfl rfl rfl (w_move rfl (ev_tmp rfl)) ?_
                refine sq_grd rfl rfl (guard_f rfl rfl rfl) (fun hc => w_move rfl (ev_tmp rfl)) ?_
                refine sq_grd rfl rfl (guard_f rfl rfl rfl) (fun hc => w_move rfl (ev_tmp rfl)) ?_
                refine sq_grd rfl rfl (guard_f rfl rfl rfl) (fun hc => w_bneq rfl Try.underlying4 (ev_whn rfl hc) (ev_whn rfl hc)) ?_
                refine sq_plain rfl rfl rfl (w_or rfl (ev_tmp rfl) (evif_w rfl)) ?_
                refine sq_plain rfl rfl rfl (w_move rfl (ev_tmp rfl)) ?_
                refine sq_grd rfl rfl (guard_f rfl rfl rfl) (fun hc => w_move rfl (ev_tmp rfl)) ?_
                refine sq_grd rfl rfl (guard_f rfl rfl rfl) (fun hc => w_move rfl (ev_whn rfl hc)) ?_
                refine sq_grd rfl rfl (guard_wt rfl rfl rfl) (fun hc => w_move rfl (ev_tmp rfl)) ?_
                refine sq_grd rfl rfl (guard_wt rfl rfl rfl) (fun hc => w_fldBn 2 rfl Try.underlying27 rfl Try.sizeOf3 (ev_tmp rfl) rfl) ?_
                refine sq_grd rfl rfl (guard_wt rfl rfl rfl) (fun hc => w_loadB1 1 rfl (ev_whn rfl hc) rfl Try.isAgg3 rfl) ?_
                refine sq_grd rfl rfl (guard_wt rfl rfl rfl) (fun hc => w_neq rfl (ev_whn rfl hc) (ev_whn rfl hc)) ?_
                refine sq_grd rfl rfl (guard_f rfl rfl rfl) (fun hc => w_and rfl (ev_whn rfl hc) (evif_w2 rfl hc)) ?_
                refine sq_plain rfl rfl rfl (w_or rfl (ev_tmp rfl) (evif_w rfl)) ?_
                refine sq_nil ?_
                refine awp_cond (ev_tmp rfl) ?_ ?_
                · intro h174
                  exfalso; rw [r1] at h174; rw [r1] at r2; revert h174 r2; generalize inRange a b k = q; cases q; (intro r2 h174; cases h174); (intro r2 h174; rw [(r2 rfl).1] at h174; simp at h174)
                · intro h174
                  refine awp_skip ?_
                  refine awp_seq ?_
                  refine awp_region ?_
                  refine sq_plain rfl rfl rfl (w_assign rfl ev_cb) ?_
                  refine sq_nil ?_
                  refine awp_seq ?_
                  refine awp_seq ?_
                  refine awp_region ?_
                  refine sq_plain rfl rfl rfl (w_move rfl (ev_tmp rfl)) ?_
                  refine sq_plain rfl rfl rfl (w_llen rfl Try.underlying23 (ev_tmp rfl)) ?_
                  refine sq_plain rfl rfl rfl (w_move rfl ev_ci) ?_
                  refine sq_nil ?_
                  refine awp_block ?_
                  refine awp_loop_i [(5, _), (6, _), (14, _), (20, _), (26, _), (27, _), (28, _), (29, _), (30, _), (31, _), (32, _), (138, _), (139, _), (140, _), (141, _), (142, _), (143, _), (144, _), (145, _), (146, _), (147, _), (148, _), (149, _), (150, _), (151, _), (152, _), (153, _), (154, _), (155, _), (156, _), (157, _), (158, _), (159, _), (160, _), (161, _), (165, _), (166, _), (174, _), (175, _), (176, _)] _ (fun (t : Nat) => t ≤ (rowsOf n).length) (fun (t : Nat) => []) (fun (t : Nat) => [(33, AV.bool (hasK ((rowsOf n).take t) k)), (177, AV.int t)]) (fun (t : Nat) => (rowsOf n).length - t) (0) ?_ (le_env ⟨rfl, rfl, rfl, rfl, rfl, rfl, rfl, rfl, rfl, rfl, rfl, rfl, rfl, rfl, rfl, rfl, rfl, rfl, rfl, rfl, rfl, rfl, rfl, rfl, rfl, rfl, rfl, rfl, rfl, rfl, rfl, rfl, rfl, rfl, rfl, rfl, rfl, rfl, rfl, rfl, rfl, rfl, trivial⟩) ?_
                  · exact Nat.zero_le _
                  intro t hinv
                  refine awp_seq ?_
                  refine awp_region ?_
                  refine sq_plain rfl rfl rfl (w_lss rfl (ev_tmp rfl) (ev_tmp rfl)) ?_
                  refine sq_nil ?_
                  refine awp_seq ?_
                  refine awp_cond (ev_tmp rfl) ?_ ?_
                  · intro h178
                    have k178 := of_decide_eq_true h178; try simp only [List.length_map] at k178
                    obtain ⟨y, hy⟩ := get_some (show t < (rowsOf n).length by omega)
                    have hhn := hasK_next (k := k) hy
                    refine awp_skip ?_
                    refine awp_seq ?_
                    refine awp_block ?_
                    refine awp_seq ?_
                    refine awp_region ?_
                    refine sq_plain rfl rfl rfl (w_idxm rfl Try.underlying23 Try.sizeOf37 (ev_tmp rfl) (ev_tmp rfl) hy (by first | omega | ((try simp only [List.length_map, List.length_take, List.length_cons, List.length_nil, chunks_len, szR] at *); omega) | (have hc2 := hc; simp only [Bool.and_eq_true, Bool.or_eq_true, Bool.or_eq_false_iff, Bool.and_eq_false_iff, Bool.not_eq_true', Bool.not_eq_false', decide_eq_true_eq, decide_eq_false_iff_not, beq_iff_eq, bne_iff_ne, List.length_map, List.length_take] at hc2; omega))) ?_
                    refine sq_plain rfl rfl rfl (w_loadE rfl (ev_tmp rfl) Try.isAgg37 Try.sizeOf37) ?_
                    refine sq_alloc rfl rfl rfl rfl Try.zeroValue37 rfl ?_
                    intro b35
                    refine sq_storeB0 0 rfl rfl rfl (ev_tmp rfl) (ev_tmp rfl) (as_agg _) rfl Try.sizeOf37 rfl ?_
                    refine sq_nil ?_
                    refine awp_seq ?_
                    refine awp_region ?_
                    refine sq_plain rfl rfl rfl (w_fldBn 0 rfl Try.underlying37 rfl Try.sizeOf9 (ev_tmp rfl) rfl) ?_
                    refine sq_plain rfl rfl rfl (w_loadB1 0 rfl (ev_tmp rfl) rfl Try.isAgg9 rfl) ?_
                    refine sq_plain rfl rfl rfl (w_move rfl (ev_tmp rfl)) ?_
                    refine sq_plain rfl rfl rfl (w_seql rfl (ev_tmp rfl) (ev_tmp rfl)) ?_
                    refine sq_nil ?_
                    refine awp_cond (ev_tmp rfl) ?_ ?_
                    · intro h184
                      have hnb : true = hasK ((rowsOf n).take (t + 1)) k := by rw [hhn, h184, Bool.or_true]
                      refine awp_seq ?_
                      refine awp_region ?_
                      refine sq_plain rfl rfl rfl (w_assign rfl ev_cb) ?_
                      refine sq_nil ?_
                      refine awp_seq ?_
                      refine awp_region ?_
                      refine sq_plain rfl rfl rfl (w_move rfl (ev_tmp rfl)) ?_
                      refine sq_plain rfl rfl rfl (w_move rfl (ev_tmp rfl)) ?_
                      refine sq_grd rfl rfl (guard_t rfl rfl rfl) (fun hc => w_move rfl (ev_tmp rfl)) ?_
                      refine sq_grd rfl rfl (guard_t rfl rfl rfl) (fun hc => w_fldBn 1 rfl Try.underlying37 rfl Try.sizeOf9 (ev_tmp rfl) rfl) ?_
                      refine sq_grd rfl rfl (guard_t rfl rfl rfl) (fun hc => w_loadB1 0 rfl (ev_whn rfl hc) rfl Try.isAgg9 rfl) ?_
                      refine sq_grd rfl rfl (guard_t rfl rfl rfl) (fun hc => w_sneq rfl (ev_whn rfl hc) (ev_whn rfl hc)) ?_
                      refine sq_plain rfl rfl rfl (w_and rfl (ev_tmp rfl) (evif_w rfl)) ?_
                      refine sq_nil ?_
                      refine awp_cond (ev_tmp rfl) ?_ ?_
                      · intro h191
                        exfalso; simp only [Bool.and_eq_true] at h191; have h9 := (r2 h191.1).2.2 y (List.mem_of_getElem? hy) (by simpa using h184); rw [h9] at h191; simp at h191
                      · intro h191
                        refine awp_skip ?_
                        refine awp_region ?_
                        refine sq_plain rfl rfl rfl (w_addi rfl (ev_tmp rfl) ev_ci (by first | omega | ((try simp only [List.length_map, List.length_take, List.length_cons, List.length_nil, chunks_len, szR] at *); omega) | (have hc2 := hc; simp only [Bool.and_eq_true, Bool.or_eq_true, Bool.or_eq_false_iff, Bool.and_eq_false_iff, Bool.not_eq_true', Bool.not_eq_false', decide_eq_true_eq, decide_eq_false_iff_not, beq_iff_eq, bne_iff_ne, List.length_map, List.length_take] at hc2; omega))) ?_
                        refine sq_plain rfl rfl rfl (w_move rfl (ev_tmp rfl)) ?_
                        refine sq_nil ?_
                        refine round_end t (t + 1) ?_ ?_ (le_drop 1 ⟨congrArg (fun b => some (AV.bool b)) hnb, rfl, rfl, rfl, rfl, rfl, rfl, rfl, rfl, rfl, rfl, rfl, rfl, rfl, rfl, rfl, rfl, rfl, rfl, rfl, rfl, rfl, rfl, rfl, rfl, rfl, rfl, rfl, rfl, rfl, rfl, rfl, rfl, rfl, rfl, rfl, rfl, rfl, rfl, rfl, rfl, rfl, trivial⟩)
                        · omega
                        · omega
                    · intro h184
                      have hnb : hasK ((rowsOf n).take t) k = hasK ((rowsOf n).take (t + 1)) k := by rw [hhn, h184, Bool.or_false]
                      refine awp_skip ?_
                      refine awp_region ?_
                      refine sq_plain rfl rfl rfl (w_addi rfl (ev_tmp rfl) ev_ci (by first | omega | ((try simp only [List.length_map, List.length_take, List.length_cons, List.length_nil, chunks_len, szR] at *); omega) | (have hc2 := hc; simp only [Bool.and_eq_true, Bool.or_eq_true, Bool.or_eq_false_iff, Bool.and_eq_false_iff, Bool.not_eq_true', Bool.not_eq_false', decide_eq_true_eq, decide_eq_false_iff_not, beq_iff_eq, bne_iff_ne, List.length_map, List.length_take] at hc2; omega))) ?_
                      refine sq_plain rfl rfl rfl (w_move rfl (ev_tmp rfl)) ?_
                      refine sq_nil ?_
                      refine round_end t (t + 1) ?_ ?_ (le_drop 1 ⟨congrArg (fun b => some (AV.bool b)) hnb, rfl, rfl, rfl, rfl, rfl, rfl, rfl, rfl, rfl, rfl, rfl, rfl, rfl, rfl, rfl, rfl, rfl, rfl, rfl, rfl, rfl, rfl, rfl, rfl, rfl, rfl, rfl, rfl, rfl, rfl, rfl, rfl, rfl, rfl, rfl, rfl, rfl, rfl, rfl, rfl, rfl, trivial⟩)
                      · omega
                      · omega
                  · intro h178
                    have k178 := of_decide_eq_false h178; try simp only [List.length_map] at k178
                    have hhe := hasK_end (k := k) (show (rowsOf n).length ≤ t by omega)
                    refine awp_exit ?_
                    refine awp_seq ?_
                    refine awp_region ?_
                    refine sq_plain rfl rfl rfl (w_move rfl (ev_tmp rfl)) ?_
                    refine sq_plain rfl rfl rfl (w_move rfl (ev_tmp rfl)) ?_
                    refine sq_grd rfl rfl (guard_t rfl rfl rfl) (fun hc => w_move rfl (ev_tmp rfl)) ?_
                    refine sq_grd rfl rfl (guard_t rfl rfl rfl) (fun hc => w_move rfl (ev_tmp rfl)) ?_
                    refine sq_grd rfl rfl (guard_t rfl rfl rfl) (fun hc => w_bneq rfl Try.underlying4 (ev_whn rfl hc) (ev_whn rfl hc)) ?_
                    refine sq_plain rfl rfl rfl (w_and rfl (ev_tmp rfl) (evif_w rfl)) ?_
                    refine sq_nil ?_
                    refine awp_cond (ev_tmp rfl) ?_ ?_
                    · intro h198
                      exfalso; simp only [Bool.and_eq_true] at h198; have h9 := (r2 h198.1).2.1; rw [h9, hhe] at h198; simp at h198
                    · intro h198
                      refine awp_skip ?_
                      refine awp_region ?_
                      refine sq_plain rfl rfl rfl (w_addi rfl (ev_tmp rfl) ev_ci (by first | omega | ((try simp only [List.length_map, List.length_take, List.length_cons, List.length_nil, chunks_len, szR] at *); omega) | (have hc2 := hc; simp only [Bool.and_eq_true, Bool.or_eq_true, Bool.or_eq_false_iff, Bool.and_eq_false_iff, Bool.not_eq_true', Bool.not_eq_false', decide_eq_true_eq, decide_eq_false_iff_not, beq_iff_eq, bne_iff_ne, List.length_map, List.length_take] at hc2; omega))) ?_
                      refine sq_plain rfl rfl rfl (w_move rfl (ev_tmp rfl)) ?_
                      refine sq_nil ?_
                      refine round_end j (j + 1) ?_ ?_ (le_env ⟨rfl, rfl, rfl, rfl, rfl, rfl, rfl, trivial⟩)
                      · omega
                      · omega
              · intro h141
                have k141 := of_decide_eq_false h141; try simp only [List.length_map] at k141
                refine awp_exit ?_
                refine awp_seq ?_
                refine awp_region ?_
                refine sq_plain rfl rfl rfl (w_fldBn 2 rfl Try.underlying27 rfl Try.sizeOf3 (ev_tmp rfl) rfl) ?_
                refine sq_plain rfl rfl rfl (w_loadB1 1 rfl (ev_tmp rfl) rfl Try.isAgg3 rfl) ?_
                refine sq_plain rfl rfl rfl (w_eql rfl (ev_tmp rfl) ev_ci) ?_
                refine sq_plain rfl rfl rfl (w_move rfl (ev_tmp rfl)) ?_
                refine sq_grd rfl rfl (guard_f rfl rfl rfl) (fun hc => w_fldBn 3 rfl Try.underlying27 rfl Try.sizeOf23 (ev_tmp rfl) rfl) ?_
                refine sq_grd rfl rfl (guard_f rfl rfl rfl) (fun hc => w_loadB1 1 rfl (ev_whn rfl hc) rfl Try.isAgg23 rfl) ?_
                refine sq_grd rfl rfl (guard_f rfl rfl rfl) (fun hc => w_llen rfl Try.underlying23 (ev_whn rfl hc)) ?_
                refine sq_grd rfl rfl (guard_f rfl rfl rfl) (fun hc => w_eql rfl (ev_whn rfl hc) ev_ci) ?_
                refine sq_plain rfl rfl rfl (w_or rfl (ev_tmp rfl) (evif_w rfl)) ?_
                refine sq_plain rfl rfl rfl (w_assign rfl (ev_tmp rfl)) ?_
                refine sq_nil ?_
                refine awp_ret ?_
                exact retR rfl (rv_tmp' rfl (by first | rfl | (refine congrArg AV.bool ?_; rcases end_from hgn with h9 | h9 <;> simp [h9]; done)))
end
theorem opens_bytes : Opens Try.prog 22 (List Int) (fun l => [bytesI l]) (fun l => ∀ x ∈ l, (Lit.int .u8 x).wf = true) := opens_slice (sz := 1) Try.underlying22 (by kernel_rfl) (opens_int Try.underlying5) (fun _ => rfl)
set_option maxRecDepth 100000 in
theorem fnMoveReads_lifted (os : Os) (started : os.Started) (H : Type) (enc : TypeId × Value → H) :
    ReturnsInHanded {} Try.checked os 4 .any (Rows.fnMoveReadsSpec.pre6 enc Try.prog Try.f4 Rows.fnMoveReadsRow.domain false) (Rows.fnMoveReadsSpec.post enc Try.prog Try.f4 false true false false) := by
  refine returnsInHanded_of_change (C := Try.checked) (by kernel_rfl) started (by kernel_rfl) Try.func4
    (ChangeSpec.witness6 (enc := enc) (C := Try.checked) false ⟨#[], #[.slice none 0 0, .slice none 0 0], []⟩ 8 (by kernel_rfl) (by kernel_rfl) (by kernel_rfl) (by kernel_rfl)) ?_
  intro W base args ds gs before hval0 hW hcnd _
  have hval : ∀ (j : Nat) t v, Try.f4.params[j]? = some t → args[j]? = some v → Value.okWide Try.prog W .any base t v := hval0
  have hW2 := hW
  obtain ⟨p, q, hA0, hV, rfl, hfz, hnd⟩ := hW
  have hA : DataW.TrodAll enc Try.prog W 0 (fun _ => true) true Try.f4.params.toList args.toList ds p := hA0
  rw [Try.params4] at hA hval
  obtain ⟨v0, vs0, d0, ds0, p0, q0, hargs, rfl, rfl, h0, r0⟩ := trodAll_cons hA
  obtain ⟨v1, vs1, d1, ds1, p1, q1, rfl, rfl, rfl, h1, r1⟩ := trodAll_cons r0
  obtain ⟨rfl, rfl, rfl⟩ := trodAll_nil r1
  obtain rfl : args = #[v0, v1] := by cases args; simp_all
  obtain ⟨rfl, rfl⟩ := trodVars_none hV
  have lt0 : ∀ x ∈ p0, x.block < W.heap.size := by obtain ⟨m, hm⟩ := h0; exact DataW.trod_lt m _ _ _ hm
  obtain ⟨a0, w0, g0⟩ := arg_one (opens_bytes) (by obtain ⟨y1, y2, y3, rfl⟩ := okWide_slice Try.underlying22 (hval 0 22 v0 rfl rfl); rfl) h0
  have lt1 : ∀ x ∈ p1, x.block < W.heap.size := by obtain ⟨m, hm⟩ := h1; exact DataW.trod_lt m _ _ _ hm
  obtain ⟨a1, w1, g1⟩ := arg_one (opens_bytes) (by obtain ⟨y1, y2, y3, rfl⟩ := okWide_slice Try.underlying22 (hval 1 22 v1 rfl rfl); rfl) h1
  have hcall := law_calls (fnMoveReads_spec a0 w0 a1 w1) (DenV.cons g0 (DenV.cons g1 (DenV.nil _)))
  clear hA0 hval0
  refine Calls.mono hcall fun e W2 ⟨he, bel⟩ => ?_
  subst he
  exact ⟨_, rfl, _, _, _, [], _, [], hW2, trodAll_mk1 (shut_bool Try.underlying4 _), (trodAll_cons_mk (Below.trod (by kernel_rfl : laidOutB Try.prog = true) (by kernel_rfl) (of_decide_eq_true (by kernel_rfl)) h0 bel lt0) (trodAll_cons_mk (Below.trod (by kernel_rfl : laidOutB Try.prog = true) (by kernel_rfl) (of_decide_eq_true (by kernel_rfl)) h1 bel lt1) trodAll_mk0)), rfl, bel.frame _, fun h => by cases h⟩
theorem fnMoveReads_and {a b : Bool} (h : a = true) (k : b = true) : (a && b) = true := by rw [h, k]; rfl
set_option maxRecDepth 100000 in
theorem fnMoveReads_facts : joinedFacts Try.pinned.checked.prog 4 Try.f4 Rows.fnMoveReadsSpec Rows.fnMoveReadsRow = true := by
  unfold joinedFacts
  iterate 18 (rw [Bool.and_assoc])
  refine fnMoveReads_and ?_ ?_
  · as_aux_lemma => kernel_rfl
  · as_aux_lemma => kernel_rfl
/-- The statement. -/
theorem fnMoveReads_proved : Rows.FnMoveReadsSaid :=
  OpenClaim.holds_of_wide 4 Try.f4 rfl rfl rfl rfl rfl rfl rfl ⟨rfl, rfl, rfl, rfl, rfl⟩ rfl rfl rfl rfl rfl (by kernel_rfl) Try.func4 fnMoveReads_facts
    (of_decide_eq_true (by kernel_rfl)) (by unfold Func.isWrapper; first | (rw [if_pos (by decide +kernel)]; kernel_rfl) | (rw [if_neg (by decide +kernel)]; exact ⟨rfl, rfl⟩))
    (fun os started H enc _ => fnMoveReads_lifted os started H enc)
end Go.Proofs.Ytdbmaekdejhobaa
