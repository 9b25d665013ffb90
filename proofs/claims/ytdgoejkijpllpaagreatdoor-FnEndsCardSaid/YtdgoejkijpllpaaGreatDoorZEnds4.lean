/- FnEnds: for every drawn shard map each key lies between the ends of its range, and the map is parsed back from its text; the program answers what the reference answers. The card ties variables of Go's library (tables, two sentinel errors) to their texts. -/
import Derived.Test.YtdgoejkijpllpaaGreatDoorZEnds3

set_option linter.unusedVariables false
set_option linter.unusedSimpArgs false
set_option maxRecDepth 100000
set_option maxHeartbeats 1000000
namespace Go.M
open Go.AV
theorem range_ok {p : TPlaces} {key : Str} (h : (rangeOf p key).2 = true) : goodPlaces p = true ∧ rangeOf p key = ((partOf p.Cuts key : Int), true) := by
  unfold rangeOf at h ⊢
  split at h
  · cases h
  · rename_i hh
    rw [if_neg hh]
    simp only [Bool.or_eq_true, Bool.not_eq_true', not_or, Bool.not_eq_false] at hh
    exact ⟨hh.1, rfl⟩
theorem text_good {p : TPlaces} (h : goodPlaces p = true) : placesTextR p = (placesB p, true) := by unfold placesTextR; rw [h]; rfl
end Go.M
namespace Go.Proofs.YtdgoejkijpllpaaGreatDoor
open Go Go.AV Go.M
open Go.ChangeShapes Go.WideShapes Go.ChangeAt Go.RowKit
theorem readPlacesF_spec (s : Str) (hs : s.length ≤ 1048576) : FSpec Tryz.prog 9 [AV.wt readW (AV.str s)] (AV.tup [AV.agg (parseP s).1.cs, AV.bool (parseP s).2]) :=
  fspec_of_gspec (readPlaces_own s hs) fun x _ => lt_tup (lc_cons (lt_agg (TPlaces.lc _ x)) (lc_cons lt_refl lc_nil))
section
attribute [local irreducible] OpW OpA OpS AWP FSpec ESpec GSpec OpE RetOk RetOkG RvDen Le Ev GuardIs SrcIs
theorem fnEnds_spec (code : List Int) (hc : ∀ x ∈ code, (Lit.int .u8 x).wf = true) (more : List Int) (hm : ∀ x ∈ more, (Lit.int .u8 x).wf = true) : FSpec Tryz.prog 3 [AV.wt readW (bytesI code), bytesI more] (AV.bool true) := by
  refine spec_of_awp Tryz.func3 rfl Tryz.ntmps3 rfl ?_
  refine AWP.le (le_tab (t := 0) rfl) ?_
  refine awp_seq ?_
  refine awp_region ?_
  refine sq_plain rfl rfl rfl (w_assign rfl ev_cb) ?_
  refine sq_nil ?_
  refine awp_seq ?_
  refine awp_seq ?_
  refine awp_region ?_
  refine sq_plain rfl rfl rfl (w_move rfl (ev_tmp rfl)) ?_
  refine sq_plain rfl rfl rfl (w_llen rfl Tryz.underlying22 (ev_tmp rfl)) ?_
  refine sq_plain rfl rfl rfl (w_move rfl (ev_tmp rfl)) ?_
  refine sq_plain rfl rfl rfl (w_llen rfl Tryz.underlying22 (ev_tmp rfl)) ?_
  refine sq_plain rfl rfl rfl (w_add rfl (ev_tmp rfl) (ev_tmp rfl)) ?_
  refine sq_plain rfl rfl rfl (w_gtr rfl (ev_tmp rfl) ev_ci) ?_
  refine sq_nil ?_
  refine awp_cond (ev_tmp rfl) ?_ ?_
  · intro h38
    have k38 := of_decide_eq_true h38; try simp only [List.length_map] at k38
    refine awp_seq ?_
    refine awp_region ?_
    refine sq_plain rfl rfl rfl (w_assign rfl ev_cb) ?_
    refine sq_nil ?_
    refine awp_ret ?_
    exact retR rfl (rv_tmp' rfl (by first | rfl | exact congrArg AV.bool (by simp)))
  · intro h38
    have k38 := of_decide_eq_false h38; try simp only [List.length_map] at k38
    have hb0 : ByteL code := byteL_of hc
    have hb1 : ByteL more := byteL_of hm
    refine awp_skip ?_
    refine awp_seq ?_
    refine awp_region ?_
    refine sq_plain rfl rfl rfl (w_move rfl (ev_tmp rfl)) ?_
    refine sq_callG [] rfl rfl rfl rfl Tryz.call4 rfl (drawRangeOf_own code hb0) (evl_cons (ev_tmp rfl) evl_nil) rfl ?_
    intro x41 ok41
    obtain ⟨⟨p, key⟩, hx41⟩ : ∃ z, x41 = z := ⟨_, rfl⟩
    subst hx41
    obtain ⟨hpz, hkz⟩ := ok41
    dsimp only at hpz hkz ⊢
    refine sq_plain rfl rfl rfl (w_move rfl (ev_tmp rfl)) ?_
    refine sq_plain rfl rfl rfl (w_extract rfl (ev_tmp rfl) rfl) ?_
    refine sq_plain rfl rfl rfl (w_extract rfl (ev_tmp rfl) rfl) ?_
    refine sq_alloc rfl rfl rfl rfl Tryz.zeroValue26 rfl ?_
    intro b5
    refine sq_storeB0 0 rfl rfl rfl (ev_tmp rfl) (ev_tmp rfl) (as_agg _) rfl Tryz.sizeOf26 rfl ?_
    refine sq_plain rfl rfl rfl (w_assign rfl (ev_tmp rfl)) ?_
    refine sq_nil ?_
    refine awp_seq ?_
    refine awp_region ?_
    refine sq_plain rfl rfl rfl (w_loadA 0 rfl (ev_tmp rfl) rfl Tryz.isAgg26 Tryz.sizeOf26 rfl) ?_
    refine sq_plain rfl rfl rfl (w_move rfl (ev_tmp rfl)) ?_
    refine sq_plain rfl rfl rfl (w_call rfl Tryz.call5 rfl (rangeOf_spec p key (by omega) (by omega)) (evl_cons (ev_tmp rfl) (evl_cons (ev_tmp rfl) evl_nil))) ?_
    refine sq_plain rfl rfl rfl (w_move rfl (ev_tmp rfl)) ?_
    refine sq_plain rfl rfl rfl (w_extract rfl (ev_tmp rfl) rfl) ?_
    refine sq_plain rfl rfl rfl (w_extract rfl (ev_tmp rfl) rfl) ?_
    refine sq_plain rfl rfl rfl (w_assign rfl (ev_tmp rfl)) ?_
    refine sq_plain rfl rfl rfl (w_assign rfl (ev_tmp rfl)) ?_
    refine sq_nil ?_
    refine awp_seq ?_
    refine awp_region ?_
    refine sq_plain rfl rfl rfl (w_loadA 0 rfl (ev_tmp rfl) rfl Tryz.isAgg26 Tryz.sizeOf26 rfl) ?_
    refine sq_plain rfl rfl rfl (w_move rfl (ev_tmp rfl)) ?_
    refine sq_plain rfl rfl rfl (w_call rfl Tryz.call6 rfl (rangeOfE_spec p key (by omega) (by omega)) (evl_cons (ev_tmp rfl) (evl_cons (ev_tmp rfl) evl_nil))) ?_
    refine sq_plain rfl rfl rfl (w_move rfl (ev_tmp rfl)) ?_
    refine sq_plain rfl rfl rfl (w_extract rfl (ev_tmp rfl) rfl) ?_
    refine sq_plain rfl rfl rfl (w_extract rfl (ev_tmp rfl) rfl) ?_
    refine sq_plain rfl rfl rfl (w_assign rfl (ev_tmp rfl)) ?_
    refine sq_plain rfl rfl rfl (w_assign rfl (ev_tmp rfl)) ?_
    refine sq_nil ?_
    refine awp_seq ?_
    refine awp_seq ?_
    refine awp_region ?_
    refine sq_plain rfl rfl rfl (w_move rfl (ev_tmp rfl)) ?_
    refine sq_plain rfl rfl rfl (w_move rfl (ev_tmp rfl)) ?_
    refine sq_plain rfl rfl rfl (w_bneq rfl Tryz.underlying4 (ev_tmp rfl) (ev_tmp rfl)) ?_
    refine sq_plain rfl rfl rfl (w_move rfl (ev_tmp rfl)) ?_
    refine sq_grd rfl rfl (guard_f rfl rfl rfl) (fun hc => w_move rfl (ev_tmp rfl)) ?_
    refine sq_grd rfl rfl (guard_f rfl rfl rfl) (fun hc => w_move rfl (ev_tmp rfl)) ?_
    refine sq_grd rfl rfl (guard_f rfl rfl rfl) (fun hc => w_neq rfl (ev_whn rfl hc) (ev_whn rfl hc)) ?_
    refine sq_plain rfl rfl rfl (w_or rfl (ev_tmp rfl) (evif_w rfl)) ?_
    refine sq_nil ?_
    refine awp_cond (ev_tmp rfl) ?_ ?_
    · intro h63
      exfalso; simp at h63
    · intro h63
      refine awp_skip ?_
      refine awp_seq ?_
      refine awp_seq ?_
      refine awp_region ?_
      refine sq_plain rfl rfl rfl (w_move rfl (ev_tmp rfl)) ?_
      refine sq_nil ?_
      refine awp_cond (ev_tmp rfl) ?_ ?_
      · intro h64
        obtain ⟨hg, hro⟩ := range_ok h64
        rw [hro]
        have heo := ends_of (key := key) hg
        have hlo := low_ok hg key
        have hho := high_ok hg key
        have hpl := placesB_len hg
        have hpt := (parseP_text hg).1
        refine awp_seq ?_
        refine awp_region ?_
        refine sq_plain rfl rfl rfl (w_loadA 0 rfl (ev_tmp rfl) rfl Tryz.isAgg26 Tryz.sizeOf26 rfl) ?_
        refine sq_plain rfl rfl rfl (w_move rfl (ev_tmp rfl)) ?_
        refine sq_plain rfl rfl rfl (w_call rfl Tryz.call7 rfl (endsOf_spec p (partOf p.Cuts key : Nat) (by omega)) (evl_cons (ev_tmp rfl) (evl_cons (ev_tmp rfl) evl_nil))) ?_
        rw [heo]
        refine sq_plain rfl rfl rfl (w_move rfl (ev_tmp rfl)) ?_
        refine sq_plain rfl rfl rfl (w_extract rfl (ev_tmp rfl) rfl) ?_
        refine sq_plain rfl rfl rfl (w_extract rfl (ev_tmp rfl) rfl) ?_
        refine sq_plain rfl rfl rfl (w_extract rfl (ev_tmp rfl) rfl) ?_
        refine sq_plain rfl rfl rfl (w_assign rfl (ev_tmp rfl)) ?_
        refine sq_plain rfl rfl rfl (w_assign rfl (ev_tmp rfl)) ?_
        refine sq_plain rfl rfl rfl (w_assign rfl (ev_tmp rfl)) ?_
        refine sq_nil ?_
        refine awp_seq ?_
        refine awp_seq ?_
        refine awp_region ?_
        refine sq_plain rfl rfl rfl (w_move rfl (ev_tmp rfl)) ?_
        refine sq_plain rfl rfl rfl (w_not rfl (ev_tmp rfl)) ?_
        refine sq_plain rfl rfl rfl (w_move rfl (ev_tmp rfl)) ?_
        refine sq_grd rfl rfl (guard_f rfl rfl rfl) (fun hc => w_move rfl (ev_tmp rfl)) ?_
        refine sq_grd rfl rfl (guard_f rfl rfl rfl) (fun hc => w_move rfl (ev_tmp rfl)) ?_
        refine sq_grd rfl rfl (guard_f rfl rfl rfl) (fun hc => w_slss rfl (ev_whn rfl hc) (ev_whn rfl hc)) ?_
        refine sq_plain rfl rfl rfl (w_or rfl (ev_tmp rfl) (evif_w rfl)) ?_
        refine sq_plain rfl rfl rfl (w_move rfl (ev_tmp rfl)) ?_
        refine sq_grd rfl rfl (guard_f rfl rfl rfl) (fun hc => w_move rfl (ev_tmp rfl)) ?_
        refine sq_grd rfl rfl (guard_f rfl rfl rfl) (fun hc => w_sneq rfl (ev_whn rfl hc) (ev_cs' (l := []) rfl)) ?_
        refine sq_grd rfl rfl (guard_f rfl rfl rfl) (fun hc => w_move rfl (ev_whn rfl hc)) ?_
        refine sq_grd rfl rfl (guard_wt rfl rfl rfl) (fun hc => w_move rfl (ev_tmp rfl)) ?_
        refine sq_grd rfl rfl (guard_wt rfl rfl rfl) (fun hc => w_move rfl (ev_tmp rfl)) ?_
        refine sq_grd rfl rfl (guard_wt rfl rfl rfl) (fun hc => w_sgeq rfl (ev_whn rfl hc) (ev_whn rfl hc)) ?_
        refine sq_grd rfl rfl (guard_f rfl rfl rfl) (fun hc => w_and rfl (ev_whn rfl hc) (evif_w2 rfl hc)) ?_
        refine sq_plain rfl rfl rfl (w_or rfl (ev_tmp rfl) (evif_w rfl)) ?_
        refine sq_nil ?_
        refine awp_cond (ev_tmp rfl) ?_ ?_
        · intro h87
          exfalso; simp [hlo] at h87; simp [h87.1, h87.2] at hho
        · intro h87
          refine awp_skip ?_
          refine awp_seq ?_
          refine awp_region ?_
          refine sq_plain rfl rfl rfl (w_loadA 0 rfl (ev_tmp rfl) rfl Tryz.isAgg26 Tryz.sizeOf26 rfl) ?_
          refine sq_plain rfl rfl rfl (w_call rfl Tryz.call8 rfl (placesTextR_spec p (by omega)) (evl_cons (ev_tmp rfl) evl_nil)) ?_
          rw [text_good hg]
          refine sq_plain rfl rfl rfl (w_move rfl (ev_tmp rfl)) ?_
          refine sq_plain rfl rfl rfl (w_extract rfl (ev_tmp rfl) rfl) ?_
          refine sq_plain rfl rfl rfl (w_extract rfl (ev_tmp rfl) rfl) ?_
          refine sq_plain rfl rfl rfl (w_assign rfl (ev_tmp rfl)) ?_
          refine sq_plain rfl rfl rfl (w_assign rfl (ev_tmp rfl)) ?_
          refine sq_nil ?_
          refine awp_seq ?_
          refine awp_region ?_
          refine sq_plain rfl rfl rfl (w_move rfl (ev_tmp rfl)) ?_
          refine sq_plain rfl rfl rfl (w_callT 1 rfl rfl Tryz.call9 rfl (readPlacesF_spec (placesB p) (by omega)) (evl_cons (ev_tmp rfl) evl_nil) (by first | exact fun _ h => h | exact fun _ h => h.1)) ?_
          rw [hpt]
          refine sq_plain rfl rfl rfl (w_move rfl (ev_tmp rfl)) ?_
          refine sq_plain rfl rfl rfl (w_extract rfl (ev_tmp rfl) rfl) ?_
          refine sq_plain rfl rfl rfl (w_extract rfl (ev_tmp rfl) rfl) ?_
          refine sq_alloc rfl rfl rfl rfl Tryz.zeroValue26 rfl ?_
          intro b16
          refine sq_storeB0 0 rfl rfl rfl (ev_tmp rfl) (ev_tmp rfl) (as_agg _) rfl Tryz.sizeOf26 rfl ?_
          refine sq_plain rfl rfl rfl (w_assign rfl (ev_tmp rfl)) ?_
          refine sq_nil ?_
          refine awp_seq ?_
          refine awp_region ?_
          refine sq_plain rfl rfl rfl (w_move rfl (ev_tmp rfl)) ?_
          refine sq_plain rfl rfl rfl (w_not rfl (ev_tmp rfl)) ?_
          refine sq_plain rfl rfl rfl (w_move rfl (ev_tmp rfl)) ?_
          refine sq_grd rfl rfl (guard_f rfl rfl rfl) (fun hc => w_move rfl (ev_tmp rfl)) ?_
          refine sq_grd rfl rfl (guard_f rfl rfl rfl) (fun hc => w_not rfl (ev_whn rfl hc)) ?_
          refine sq_plain rfl rfl rfl (w_or rfl (ev_tmp rfl) (evif_w rfl)) ?_
          refine sq_plain rfl rfl rfl (w_move rfl (ev_tmp rfl)) ?_
          refine sq_grd rfl rfl (guard_f rfl rfl rfl) (fun hc => w_loadA 0 rfl (ev_tmp rfl) rfl Tryz.isAgg26 Tryz.sizeOf26 rfl) ?_
          refine sq_grd rfl rfl (guard_f rfl rfl rfl) (fun hc => w_loadA 1 rfl (ev_tmp rfl) rfl Tryz.isAgg26 Tryz.sizeOf26 rfl) ?_
          refine sq_grd rfl rfl (guard_f rfl rfl rfl) (fun hc => w_call rfl Tryz.call10 rfl (qSameP_spec _ _) (evl_cons (ev_whn rfl hc) (evl_cons (ev_whn rfl hc) evl_nil))) ?_
          refine sq_grd rfl rfl (guard_f rfl rfl rfl) (fun hc => w_not rfl (ev_whn rfl hc)) ?_
          refine sq_plain rfl rfl rfl (w_or rfl (ev_tmp rfl) (evif_w rfl)) ?_
          refine sq_nil ?_
          refine awp_cond (ev_tmp rfl) ?_ ?_
          · intro h109
            exfalso; simp at h109
          · intro h109
            refine awp_skip ?_
            refine awp_seq ?_
            refine awp_region ?_
            refine sq_plain rfl rfl rfl (w_move rfl (ev_tmp rfl)) ?_
            refine sq_callG [] rfl rfl rfl rfl Tryz.call11 rfl (drawEndsOf_own more hb1) (evl_cons (ev_tmp rfl) evl_nil) rfl ?_
            intro x112 ok112
            obtain ⟨⟨q, i⟩, hx112⟩ : ∃ z, x112 = z := ⟨_, rfl⟩
            subst hx112
            dsimp only at ok112 ⊢
            refine sq_plain rfl rfl rfl (w_move rfl (ev_tmp rfl)) ?_
            refine sq_plain rfl rfl rfl (w_extract rfl (ev_tmp rfl) rfl) ?_
            refine sq_plain rfl rfl rfl (w_extract rfl (ev_tmp rfl) rfl) ?_
            refine sq_alloc rfl rfl rfl rfl Tryz.zeroValue26 rfl ?_
            intro b18
            refine sq_storeB0 0 rfl rfl rfl (ev_tmp rfl) (ev_tmp rfl) (as_agg _) rfl Tryz.sizeOf26 rfl ?_
            refine sq_plain rfl rfl rfl (w_assign rfl (ev_tmp rfl)) ?_
            refine sq_nil ?_
            refine awp_seq ?_
            refine awp_region ?_
            refine sq_plain rfl rfl rfl (w_loadA 0 rfl (ev_tmp rfl) rfl Tryz.isAgg26 Tryz.sizeOf26 rfl) ?_
            refine sq_plain rfl rfl rfl (w_move rfl (ev_tmp rfl)) ?_
            refine sq_plain rfl rfl rfl (w_call rfl Tryz.call7 rfl (endsOf_spec q i (by omega)) (evl_cons (ev_tmp rfl) (evl_cons (ev_tmp rfl) evl_nil))) ?_
            refine sq_plain rfl rfl rfl (w_move rfl (ev_tmp rfl)) ?_
            refine sq_plain rfl rfl rfl (w_extract rfl (ev_tmp rfl) rfl) ?_
            refine sq_plain rfl rfl rfl (w_extract rfl (ev_tmp rfl) rfl) ?_
            refine sq_plain rfl rfl rfl (w_extract rfl (ev_tmp rfl) rfl) ?_
            refine sq_plain rfl rfl rfl (w_assign rfl (ev_tmp rfl)) ?_
            refine sq_plain rfl rfl rfl (w_assign rfl (ev_tmp rfl)) ?_
            refine sq_plain rfl rfl rfl (w_assign rfl (ev_tmp rfl)) ?_
            refine sq_nil ?_
            refine awp_seq ?_
            refine awp_region ?_
            refine sq_plain rfl rfl rfl (w_loadA 0 rfl (ev_tmp rfl) rfl Tryz.isAgg26 Tryz.sizeOf26 rfl) ?_
            refine sq_plain rfl rfl rfl (w_move rfl (ev_tmp rfl)) ?_
            refine sq_plain rfl rfl rfl (w_call rfl Tryz.call12 rfl (endsOfS_spec q i (by omega)) (evl_cons (ev_tmp rfl) (evl_cons (ev_tmp rfl) evl_nil))) ?_
            refine sq_plain rfl rfl rfl (w_move rfl (ev_tmp rfl)) ?_
            refine sq_plain rfl rfl rfl (w_extract rfl (ev_tmp rfl) rfl) ?_
            refine sq_plain rfl rfl rfl (w_extract rfl (ev_tmp rfl) rfl) ?_
            refine sq_plain rfl rfl rfl (w_extract rfl (ev_tmp rfl) rfl) ?_
            refine sq_plain rfl rfl rfl (w_assign rfl (ev_tmp rfl)) ?_
            refine sq_plain rfl rfl rfl (w_assign rfl (ev_tmp rfl)) ?_
            refine sq_plain rfl rfl rfl (w_assign rfl (ev_tmp rfl)) ?_
            refine sq_nil ?_
            refine awp_seq ?_
            refine awp_region ?_
            refine sq_plain rfl rfl rfl (w_move rfl (ev_tmp rfl)) ?_
            refine sq_callG [] rfl rfl rfl rfl Tryz.call13 rfl (drawReadPlaces_own more hb1) (evl_cons (ev_tmp rfl) evl_nil) rfl ?_
            intro x130 ok130
            refine sq_plain rfl rfl rfl (w_assign rfl (ev_tmp rfl)) ?_
            refine sq_nil ?_
            refine awp_seq ?_
            refine awp_region ?_
            refine sq_plain rfl rfl rfl (w_move rfl (ev_tmp rfl)) ?_
            refine sq_plain rfl rfl rfl (w_callT 3 rfl rfl Tryz.call9 rfl (readPlacesF_spec x130 (by omega)) (evl_cons (ev_tmp rfl) evl_nil) (by first | exact fun _ h => h | exact fun _ h => h.1)) ?_
            refine sq_plain rfl rfl rfl (w_move rfl (ev_tmp rfl)) ?_
            refine sq_plain rfl rfl rfl (w_extract rfl (ev_tmp rfl) rfl) ?_
            refine sq_plain rfl rfl rfl (w_extract rfl (ev_tmp rfl) rfl) ?_
            refine sq_alloc rfl rfl rfl rfl Tryz.zeroValue26 rfl ?_
            intro b27
            refine sq_storeB0 0 rfl rfl rfl (ev_tmp rfl) (ev_tmp rfl) (as_agg _) rfl Tryz.sizeOf26 rfl ?_
            refine sq_plain rfl rfl rfl (w_assign rfl (ev_tmp rfl)) ?_
            refine sq_nil ?_
            refine awp_seq ?_
            refine awp_region ?_
            refine sq_plain rfl rfl rfl (w_move rfl (ev_tmp rfl)) ?_
            refine sq_plain rfl rfl rfl (w_call rfl Tryz.call14 rfl (readPlacesS_spec x130 (by omega)) (evl_cons (ev_tmp rfl) evl_nil)) ?_
            refine sq_plain rfl rfl rfl (w_move rfl (ev_tmp rfl)) ?_
            refine sq_plain rfl rfl rfl (w_extract rfl (ev_tmp rfl) rfl) ?_
            refine sq_plain rfl rfl rfl (w_extract rfl (ev_tmp rfl) rfl) ?_
            refine sq_alloc rfl rfl rfl rfl Tryz.zeroValue26 rfl ?_
            intro b29
            refine sq_storeB0 0 rfl rfl rfl (ev_tmp rfl) (ev_tmp rfl) (as_agg _) rfl Tryz.sizeOf26 rfl ?_
            refine sq_plain rfl rfl rfl (w_assign rfl (ev_tmp rfl)) ?_
            refine sq_nil ?_
            refine awp_seq ?_
            refine awp_seq ?_
            refine awp_region ?_
            refine sq_plain rfl rfl rfl (w_move rfl (ev_tmp rfl)) ?_
            refine sq_plain rfl rfl rfl (w_move rfl (ev_tmp rfl)) ?_
            refine sq_plain rfl rfl rfl (w_bneq rfl Tryz.underlying4 (ev_tmp rfl) (ev_tmp rfl)) ?_
            refine sq_plain rfl rfl rfl (w_move rfl (ev_tmp rfl)) ?_
            refine sq_grd rfl rfl (guard_f rfl rfl rfl) (fun hc => w_move rfl (ev_tmp rfl)) ?_
            refine sq_grd rfl rfl (guard_f rfl rfl rfl) (fun hc => w_move rfl (ev_tmp rfl)) ?_
            refine sq_grd rfl rfl (guard_f rfl rfl rfl) (fun hc => w_sneq rfl (ev_whn rfl hc) (ev_whn rfl hc)) ?_
            refine sq_plain rfl rfl rfl (w_or rfl (ev_tmp rfl) (evif_w rfl)) ?_
            refine sq_plain rfl rfl rfl (w_move rfl (ev_tmp rfl)) ?_
            refine sq_grd rfl rfl (guard_f rfl rfl rfl) (fun hc => w_move rfl (ev_tmp rfl)) ?_
            refine sq_grd rfl rfl (guard_f rfl rfl rfl) (fun hc => w_move rfl (ev_tmp rfl)) ?_
            refine sq_grd rfl rfl (guard_f rfl rfl rfl) (fun hc => w_sneq rfl (ev_whn rfl hc) (ev_whn rfl hc)) ?_
            refine sq_plain rfl rfl rfl (w_or rfl (ev_tmp rfl) (evif_w rfl)) ?_
            refine sq_plain rfl rfl rfl (w_move rfl (ev_tmp rfl)) ?_
            refine sq_grd rfl rfl (guard_f rfl rfl rfl) (fun hc => w_move rfl (ev_tmp rfl)) ?_
            refine sq_grd rfl rfl (guard_f rfl rfl rfl) (fun hc => w_move rfl (ev_tmp rfl)) ?_
            refine sq_grd rfl rfl (guard_f rfl rfl rfl) (fun hc => w_bneq rfl Tryz.underlying4 (ev_whn rfl hc) (ev_whn rfl hc)) ?_
            refine sq_plain rfl rfl rfl (w_or rfl (ev_tmp rfl) (evif_w rfl)) ?_
            refine sq_plain rfl rfl rfl (w_move rfl (ev_tmp rfl)) ?_
            refine sq_grd rfl rfl (guard_f rfl rfl rfl) (fun hc => w_loadA 1 rfl (ev_tmp rfl) rfl Tryz.isAgg26 Tryz.sizeOf26 rfl) ?_
            refine sq_grd rfl rfl (guard_f rfl rfl rfl) (fun hc => w_loadA 0 rfl (ev_tmp rfl) rfl Tryz.isAgg26 Tryz.sizeOf26 rfl) ?_
            refine sq_grd rfl rfl (guard_f rfl rfl rfl) (fun hc => w_call rfl Tryz.call10 rfl (qSameP_spec _ _) (evl_cons (ev_whn rfl hc) (evl_cons (ev_whn rfl hc) evl_nil))) ?_
            refine sq_grd rfl rfl (guard_f rfl rfl rfl) (fun hc => w_not rfl (ev_whn rfl hc)) ?_
            refine sq_plain rfl rfl rfl (w_or rfl (ev_tmp rfl) (evif_w rfl)) ?_
            refine sq_nil ?_
            refine awp_cond (ev_tmp rfl) ?_ ?_
            · intro h164
              exfalso; rw [parseP_eq] at h164; simp at h164
            · intro h164
              refine awp_skip ?_
              refine awp_seq ?_
              refine awp_seq ?_
              refine awp_region ?_
              refine sq_plain rfl rfl rfl (w_move rfl (ev_tmp rfl)) ?_
              refine sq_nil ?_
              refine awp_cond (ev_tmp rfl) ?_ ?_
              · intro h165
                have hgs : goodPlaces (parseP x130).1 = true ∧ placesB (parseP x130).1 = x130 := (by rcases parseP_cases x130 with h9 | ⟨_, h9⟩; (rw [h9] at h165; cases h165); exact h9)
                have hgz := good_size hgs.1
                refine awp_seq ?_
                refine awp_region ?_
                refine sq_plain rfl rfl rfl (w_loadA 1 rfl (ev_tmp rfl) rfl Tryz.isAgg26 Tryz.sizeOf26 rfl) ?_
                refine sq_plain rfl rfl rfl (w_call rfl Tryz.call8 rfl (placesTextR_spec (parseP x130).1 (by omega)) (evl_cons (ev_tmp rfl) evl_nil)) ?_
                rw [text_good hgs.1, hgs.2]
                refine sq_plain rfl rfl rfl (w_move rfl (ev_tmp rfl)) ?_
                refine sq_plain rfl rfl rfl (w_extract rfl (ev_tmp rfl) rfl) ?_
                refine sq_plain rfl rfl rfl (w_extract rfl (ev_tmp rfl) rfl) ?_
                refine sq_plain rfl rfl rfl (w_assign rfl (ev_tmp rfl)) ?_
                refine sq_plain rfl rfl rfl (w_assign rfl (ev_tmp rfl)) ?_
                refine sq_nil ?_
                refine awp_seq ?_
                refine awp_region ?_
                refine sq_plain rfl rfl rfl (w_move rfl (ev_tmp rfl)) ?_
                refine sq_plain rfl rfl rfl (w_move rfl (ev_tmp rfl)) ?_
                refine sq_grd rfl rfl (guard_t rfl rfl rfl) (fun hc => w_move rfl (ev_tmp rfl)) ?_
                refine sq_grd rfl rfl (guard_t rfl rfl rfl) (fun hc => w_move rfl (ev_tmp rfl)) ?_
                refine sq_grd rfl rfl (guard_t rfl rfl rfl) (fun hc => w_seql rfl (ev_whn rfl hc) (ev_whn rfl hc)) ?_
                refine sq_plain rfl rfl rfl (w_and rfl (ev_tmp rfl) (evif_w rfl)) ?_
                refine sq_plain rfl rfl rfl (w_assign rfl (ev_tmp rfl)) ?_
                refine sq_nil ?_
                refine awp_ret ?_
                exact retR rfl (rv_tmp' rfl (by first | rfl | exact congrArg AV.bool (by simp)))
              · intro h165
                refine awp_skip ?_
                refine awp_seq ?_
                refine awp_region ?_
                refine sq_plain rfl rfl rfl (w_assign rfl ev_cb) ?_
                refine sq_nil ?_
                refine awp_ret ?_
                exact retR rfl (rv_tmp' rfl (by first | rfl | exact congrArg AV.bool (by simp)))
      · intro h64
        refine awp_skip ?_
        refine awp_seq ?_
        refine awp_region ?_
        refine sq_plain rfl rfl rfl (w_move rfl (ev_tmp rfl)) ?_
        refine sq_callG [] rfl rfl rfl rfl Tryz.call11 rfl (drawEndsOf_own more hb1) (evl_cons (ev_tmp rfl) evl_nil) rfl ?_
        intro x112 ok112
        obtain ⟨⟨q, i⟩, hx112⟩ : ∃ z, x112 = z := ⟨_, rfl⟩
        subst hx112
        dsimp only at ok112 ⊢
        refine sq_plain rfl rfl rfl (w_move rfl (ev_tmp rfl)) ?_
        refine sq_plain rfl rfl rfl (w_extract rfl (ev_tmp rfl) rfl) ?_
        refine sq_plain rfl rfl rfl (w_extract rfl (ev_tmp rfl) rfl) ?_
        refine sq_alloc rfl rfl rfl rfl Tryz.zeroValue26 rfl ?_
        intro b18
        refine sq_storeB0 0 rfl rfl rfl (ev_tmp rfl) (ev_tmp rfl) (as_agg _) rfl Tryz.sizeOf26 rfl ?_
        refine sq_plain rfl rfl rfl (w_assign rfl (ev_tmp rfl)) ?_
        refine sq_nil ?_
        refine awp_seq ?_
        refine awp_region ?_
        refine sq_plain rfl rfl rfl (w_loadA 0 rfl (ev_tmp rfl) rfl Tryz.isAgg26 Tryz.sizeOf26 rfl) ?_
        refine sq_plain rfl rfl rfl (w_move rfl (ev_tmp rfl)) ?_
        refine sq_plain rfl rfl rfl (w_call rfl Tryz.call7 rfl (endsOf_spec q i (by omega)) (evl_cons (ev_tmp rfl) (evl_cons (ev_tmp rfl) evl_nil))) ?_
        refine sq_plain rfl rfl rfl (w_move rfl (ev_tmp rfl)) ?_
        refine sq_plain rfl rfl rfl (w_extract rfl (ev_tmp rfl) rfl) ?_
        refine sq_plain rfl rfl rfl (w_extract rfl (ev_tmp rfl) rfl) ?_
        refine sq_plain rfl rfl rfl (w_extract rfl (ev_tmp rfl) rfl) ?_
        refine sq_plain rfl rfl rfl (w_assign rfl (ev_tmp rfl)) ?_
        refine sq_plain rfl rfl rfl (w_assign rfl (ev_tmp rfl)) ?_
        refine sq_plain rfl rfl rfl (w_assign rfl (ev_tmp rfl)) ?_
        refine sq_nil ?_
        refine awp_seq ?_
        refine awp_region ?_
        refine sq_plain rfl rfl rfl (w_loadA 0 rfl (ev_tmp rfl) rfl Tryz.isAgg26 Tryz.sizeOf26 rfl) ?_
        refine sq_plain rfl rfl rfl (w_move rfl (ev_tmp rfl)) ?_
        refine sq_plain rfl rfl rfl (w_call rfl Tryz.call12 rfl (endsOfS_spec q i (by omega)) (evl_cons (ev_tmp rfl) (evl_cons (ev_tmp rfl) evl_nil))) ?_
        refine sq_plain rfl rfl rfl (w_move rfl (ev_tmp rfl)) ?_
        refine sq_plain rfl rfl rfl (w_extract rfl (ev_tmp rfl) rfl) ?_
        refine sq_plain rfl rfl rfl (w_extract rfl (ev_tmp rfl) rfl) ?_
        refine sq_plain rfl rfl rfl (w_extract rfl (ev_tmp rfl) rfl) ?_
        refine sq_plain rfl rfl rfl (w_assign rfl (ev_tmp rfl)) ?_
        refine sq_plain rfl rfl rfl (w_assign rfl (ev_tmp rfl)) ?_
        refine sq_plain rfl rfl rfl (w_assign rfl (ev_tmp rfl)) ?_
        refine sq_nil ?_
        refine awp_seq ?_
        refine awp_region ?_
        refine sq_plain rfl rfl rfl (w_move rfl (ev_tmp rfl)) ?_
        refine sq_callG [] rfl rfl rfl rfl Tryz.call13 rfl (drawReadPlaces_own more hb1) (evl_cons (ev_tmp rfl) evl_nil) rfl ?_
        intro x130 ok130
        refine sq_plain rfl rfl rfl (w_assign rfl (ev_tmp rfl)) ?_
        refine sq_nil ?_
        refine awp_seq ?_
        refine awp_region ?_
        refine sq_plain rfl rfl rfl (w_move rfl (ev_tmp rfl)) ?_
        refine sq_plain rfl rfl rfl (w_callT 2 rfl rfl Tryz.call9 rfl (readPlacesF_spec x130 (by omega)) (evl_cons (ev_tmp rfl) evl_nil) (by first | exact fun _ h => h | exact fun _ h => h.1)) ?_
        refine sq_plain rfl rfl rfl (w_move rfl (ev_tmp rfl)) ?_
        refine sq_plain rfl rfl rfl (w_extract rfl (ev_tmp rfl) rfl) ?_
        refine sq_plain rfl rfl rfl (w_extract rfl (ev_tmp rfl) rfl) ?_
        refine sq_alloc rfl rfl rfl rfl Tryz.zeroValue26 rfl ?_
        intro b27
        refine sq_storeB0 0 rfl rfl rfl (ev_tmp rfl) (ev_tmp rfl) (as_agg _) rfl Tryz.sizeOf26 rfl ?_
        refine sq_plain rfl rfl rfl (w_assign rfl (ev_tmp rfl)) ?_
        refine sq_nil ?_
        refine awp_seq ?_
        refine awp_region ?_
        refine sq_plain rfl rfl rfl (w_move rfl (ev_tmp rfl)) ?_
        refine sq_plain rfl rfl rfl (w_call rfl Tryz.call14 rfl (readPlacesS_spec x130 (by omega)) (evl_cons (ev_tmp rfl) evl_nil)) ?_
        refine sq_plain rfl rfl rfl (w_move rfl (ev_tmp rfl)) ?_
        refine sq_plain rfl rfl rfl (w_extract rfl (ev_tmp rfl) rfl) ?_
        refine sq_plain rfl rfl rfl (w_extract rfl (ev_tmp rfl) rfl) ?_
        refine sq_alloc rfl rfl rfl rfl Tryz.zeroValue26 rfl ?_
        intro b29
        refine sq_storeB0 0 rfl rfl rfl (ev_tmp rfl) (ev_tmp rfl) (as_agg _) rfl Tryz.sizeOf26 rfl ?_
        refine sq_plain rfl rfl rfl (w_assign rfl (ev_tmp rfl)) ?_
        refine sq_nil ?_
        refine awp_seq ?_
        refine awp_seq ?_
        refine awp_region ?_
        refine sq_plain rfl rfl rfl (w_move rfl (ev_tmp rfl)) ?_
        refine sq_plain rfl rfl rfl (w_move rfl (ev_tmp rfl)) ?_
        refine sq_plain rfl rfl rfl (w_bneq rfl Tryz.underlying4 (ev_tmp rfl) (ev_tmp rfl)) ?_
        refine sq_plain rfl rfl rfl (w_move rfl (ev_tmp rfl)) ?_
        refine sq_grd rfl rfl (guard_f rfl rfl rfl) (fun hc => w_move rfl (ev_tmp rfl)) ?_
        refine sq_grd rfl rfl (guard_f rfl rfl rfl) (fun hc => w_move rfl (ev_tmp rfl)) ?_
        refine sq_grd rfl rfl (guard_f rfl rfl rfl) (fun hc => w_sneq rfl (ev_whn rfl hc) (ev_whn rfl hc)) ?_
        refine sq_plain rfl rfl rfl (w_or rfl (ev_tmp rfl) (evif_w rfl)) ?_
        refine sq_plain rfl rfl rfl (w_move rfl (ev_tmp rfl)) ?_
        refine sq_grd rfl rfl (guard_f rfl rfl rfl) (fun hc => w_move rfl (ev_tmp rfl)) ?_
        refine sq_grd rfl rfl (guard_f rfl rfl rfl) (fun hc => w_move rfl (ev_tmp rfl)) ?_
        refine sq_grd rfl rfl (guard_f rfl rfl rfl) (fun hc => w_sneq rfl (ev_whn rfl hc) (ev_whn rfl hc)) ?_
        refine sq_plain rfl rfl rfl (w_or rfl (ev_tmp rfl) (evif_w rfl)) ?_
        refine sq_plain rfl rfl rfl (w_move rfl (ev_tmp rfl)) ?_
        refine sq_grd rfl rfl (guard_f rfl rfl rfl) (fun hc => w_move rfl (ev_tmp rfl)) ?_
        refine sq_grd rfl rfl (guard_f rfl rfl rfl) (fun hc => w_move rfl (ev_tmp rfl)) ?_
        refine sq_grd rfl rfl (guard_f rfl rfl rfl) (fun hc => w_bneq rfl Tryz.underlying4 (ev_whn rfl hc) (ev_whn rfl hc)) ?_
        refine sq_plain rfl rfl rfl (w_or rfl (ev_tmp rfl) (evif_w rfl)) ?_
        refine sq_plain rfl rfl rfl (w_move rfl (ev_tmp rfl)) ?_
        refine sq_grd rfl rfl (guard_f rfl rfl rfl) (fun hc => w_loadA 1 rfl (ev_tmp rfl) rfl Tryz.isAgg26 Tryz.sizeOf26 rfl) ?_
        refine sq_grd rfl rfl (guard_f rfl rfl rfl) (fun hc => w_loadA 0 rfl (ev_tmp rfl) rfl Tryz.isAgg26 Tryz.sizeOf26 rfl) ?_
        refine sq_grd rfl rfl (guard_f rfl rfl rfl) (fun hc => w_call rfl Tryz.call10 rfl (qSameP_spec _ _) (evl_cons (ev_whn rfl hc) (evl_cons (ev_whn rfl hc) evl_nil))) ?_
        refine sq_grd rfl rfl (guard_f rfl rfl rfl) (fun hc => w_not rfl (ev_whn rfl hc)) ?_
        refine sq_plain rfl rfl rfl (w_or rfl (ev_tmp rfl) (evif_w rfl)) ?_
        refine sq_nil ?_
        refine awp_cond (ev_tmp rfl) ?_ ?_
        · intro h164
          exfalso; rw [parseP_eq] at h164; simp at h164
        · intro h164
          refine awp_skip ?_
          refine awp_seq ?_
          refine awp_seq ?_
          refine awp_region ?_
          refine sq_plain rfl rfl rfl (w_move rfl (ev_tmp rfl)) ?_
          refine sq_nil ?_
          refine awp_cond (ev_tmp rfl) ?_ ?_
          · intro h165
            have hgs : goodPlaces (parseP x130).1 = true ∧ placesB (parseP x130).1 = x130 := (by rcases parseP_cases x130 with h9 | ⟨_, h9⟩; (rw [h9] at h165; cases h165); exact h9)
            have hgz := good_size hgs.1
            refine awp_seq ?_
            refine awp_region ?_
            refine sq_plain rfl rfl rfl (w_loadA 1 rfl (ev_tmp rfl) rfl Tryz.isAgg26 Tryz.sizeOf26 rfl) ?_
            refine sq_plain rfl rfl rfl (w_call rfl Tryz.call8 rfl (placesTextR_spec (parseP x130).1 (by omega)) (evl_cons (ev_tmp rfl) evl_nil)) ?_
            rw [text_good hgs.1, hgs.2]
            refine sq_plain rfl rfl rfl (w_move rfl (ev_tmp rfl)) ?_
            refine sq_plain rfl rfl rfl (w_extract rfl (ev_tmp rfl) rfl) ?_
            refine sq_plain rfl rfl rfl (w_extract rfl (ev_tmp rfl) rfl) ?_
            refine sq_plain rfl rfl rfl (w_assign rfl (ev_tmp rfl)) ?_
            refine sq_plain rfl rfl rfl (w_assign rfl (ev_tmp rfl)) ?_
            refine sq_nil ?_
            refine awp_seq ?_
            refine awp_region ?_
            refine sq_plain rfl rfl rfl (w_move rfl (ev_tmp rfl)) ?_
            refine sq_plain rfl rfl rfl (w_move rfl (ev_tmp rfl)) ?_
            refine sq_grd rfl rfl (guard_t rfl rfl rfl) (fun hc => w_move rfl (ev_tmp rfl)) ?_
            refine sq_grd rfl rfl (guard_t rfl rfl rfl) (fun hc => w_move rfl (ev_tmp rfl)) ?_
            refine sq_grd rfl rfl (guard_t rfl rfl rfl) (fun hc => w_seql rfl (ev_whn rfl hc) (ev_whn rfl hc)) ?_
            refine sq_plain rfl rfl rfl (w_and rfl (ev_tmp rfl) (evif_w rfl)) ?_
            refine sq_plain rfl rfl rfl (w_assign rfl (ev_tmp rfl)) ?_
            refine sq_nil ?_
            refine awp_ret ?_
            exact retR rfl (rv_tmp' rfl (by first | rfl | exact congrArg AV.bool (by simp)))
          · intro h165
            refine awp_skip ?_
            refine awp_seq ?_
            refine awp_region ?_
            refine sq_plain rfl rfl rfl (w_assign rfl ev_cb) ?_
            refine sq_nil ?_
            refine awp_ret ?_
            exact retR rfl (rv_tmp' rfl (by first | rfl | exact congrArg AV.bool (by simp)))
end
theorem opens_bytes : Opens Tryz.prog 22 (List Int) (fun l => [bytesI l]) (fun l => ∀ x ∈ l, (Lit.int .u8 x).wf = true) := opens_slice (sz := 1) Tryz.underlying22 (by kernel_rfl) (opens_int Tryz.underlying5) (fun _ => rfl)
set_option maxRecDepth 100000 in
theorem fnEnds_lifted (os : Os) (started : os.Started) (H : Type) (enc : TypeId × Value → H) :
    ReturnsInHanded {} Tryz.checked os 3 .any (fun w args => (Rows.fnEndsSpec.pre enc Tryz.prog Tryz.f3 [] false w args ∧ laidMetH Tryz.prog Rows.fnEndsRow.laid w) ∧ sizedMet enc Tryz.prog Tryz.f3 (OpenSpec.ofChange Rows.fnEndsSpec) false w args) (Rows.fnEndsSpec.post enc Tryz.prog Tryz.f3 false true false false) := by
  refine Go.AV.handed_shaped (C := Tryz.checked) (X := fun w _ => laidMetH Tryz.prog Rows.fnEndsRow.laid w) (fun _ _ _ hh h => h.of_heap hh) (by kernel_rfl) started (by kernel_rfl) Tryz.func3
    (ChangeSpec.witness_shaped (enc := enc) (C := Tryz.checked) (os := os) (X := fun w _ => laidMetH Tryz.prog Rows.fnEndsRow.laid w) false (World.laidAll Tryz.prog os Rows.fnEndsRow.laid) #[.slice none 0 0, .slice none 0 0] 8 (World.laidAll_os _ _ _)
      (World.shaped_of_ZipB (by kernel_rfl) (by kernel_rfl)) (by kernel_rfl) (by kernel_rfl) (by kernel_rfl)
      (by rw [MakeChecks.laidMetH_plain _ _ _ (by kernel_rfl)]; exact laidMet_laidAll _ (by kernel_rfl) (by kernel_rfl))) ?_
  intro W base args ds gs before hval0 hW hsh _ hL _
  rw [MakeChecks.laidMetH_plain _ _ _ (by kernel_rfl)] at hL
  have hT : readW W := readW_of hL hsh
  have hval : ∀ (j : Nat) t v, Tryz.f3.params[j]? = some t → args[j]? = some v → Value.okWide Tryz.prog W .any base t v := hval0
  have hW2 := hW
  obtain ⟨p, q, hA0, hV, rfl, hfz, hnd⟩ := hW
  have hA : DataW.TrodAll enc Tryz.prog W 0 (fun _ => true) true Tryz.f3.params.toList args.toList ds p := hA0
  rw [Tryz.params3] at hA hval
  obtain ⟨v0, vs0, d0, ds0, p0, q0, hargs, rfl, rfl, h0, r0⟩ := trodAll_cons hA
  obtain ⟨v1, vs1, d1, ds1, p1, q1, rfl, rfl, rfl, h1, r1⟩ := trodAll_cons r0
  obtain ⟨rfl, rfl, rfl⟩ := trodAll_nil r1
  obtain rfl : args = #[v0, v1] := by cases args; simp_all
  obtain ⟨rfl, rfl⟩ := trodVars_none hV
  have lt0 : ∀ x ∈ p0, x.block < W.heap.size := by obtain ⟨m, hm⟩ := h0; exact DataW.trod_lt m _ _ _ hm
  obtain ⟨a0, w0, g0⟩ := arg_one (opens_bytes) (by obtain ⟨y1, y2, y3, rfl⟩ := okWide_slice Tryz.underlying22 (hval 0 22 v0 rfl rfl); rfl) h0
  have lt1 : ∀ x ∈ p1, x.block < W.heap.size := by obtain ⟨m, hm⟩ := h1; exact DataW.trod_lt m _ _ _ hm
  obtain ⟨a1, w1, g1⟩ := arg_one (opens_bytes) (by obtain ⟨y1, y2, y3, rfl⟩ := okWide_slice Tryz.underlying22 (hval 1 22 v1 rfl rfl); rfl) h1
  have hcall := law_calls (fnEnds_spec a0 w0 a1 w1) (DenV.cons ⟨g0, fun w2 hw2 => readW_heap hT hw2⟩ (DenV.cons g1 (DenV.nil _)))
  clear hA0 hval0
  refine Calls.mono hcall fun e W2 ⟨he, bel⟩ => ?_
  subst he
  exact ⟨_, rfl, _, _, _, [], _, [], hW2, trodAll_mk1 (shut_bool Tryz.underlying4 _), (trodAll_cons_mk (Below.trod (by kernel_rfl : laidOutB Tryz.prog = true) (by kernel_rfl) (of_decide_eq_true (by kernel_rfl)) h0 bel lt0) (trodAll_cons_mk (Below.trod (by kernel_rfl : laidOutB Tryz.prog = true) (by kernel_rfl) (of_decide_eq_true (by kernel_rfl)) h1 bel lt1) trodAll_mk0)), rfl, bel.frame _, fun h => by cases h⟩
theorem fnEnds_and {a b : Bool} (h : a = true) (k : b = true) : (a && b) = true := by rw [h, k]; rfl
set_option maxRecDepth 100000 in
theorem fnEnds_facts : joinedFacts Tryz.pinned.checked.prog 3 Tryz.f3 Rows.fnEndsSpec Rows.fnEndsRow = true := by
  unfold joinedFacts
  iterate 18 (rw [Bool.and_assoc])
  refine fnEnds_and ?_ ?_
  · as_aux_lemma => kernel_rfl
  · as_aux_lemma => kernel_rfl
theorem fnEnds_row : Rows.FnEndsSaid :=
  OpenClaim.holds_of_wide 3 Tryz.f3 rfl rfl rfl rfl rfl rfl rfl ⟨rfl, rfl, rfl, rfl, rfl⟩ rfl rfl rfl rfl rfl (by kernel_rfl) Tryz.func3 fnEnds_facts
    (of_decide_eq_true (by kernel_rfl)) (by unfold Func.isWrapper; first | (rw [if_pos (by decide +kernel)]; kernel_rfl) | (rw [if_neg (by decide +kernel)]; exact ⟨rfl, rfl⟩))
    (fun os started H enc _ => fnEnds_lifted os started H enc)
theorem fnEnds_proved : Rows.FnEndsCardSaid :=
  Claim7.holds_tied_plain_at .later [] [.data, .data, .data, .data, .sentinel, .sentinel, .pinned] true (true, "6529437af15e5a591f100b1cc988c5149ba228bbe73a88baf96db2a841b24e1b") true
    fnEnds_row (fun _ h => by cases h) (by kernel_rfl) (fun _ h => by cases h) fnEnds_row_tie rfl ⟨rfl, rfl⟩ (by kernel_rfl) rfl
    (fun f fn hf hfn => by
      obtain rfl : f = 3 := Option.some.inj ((show Tryz.prog.funcNamed "loop.example/g00850/laws.FnEnds" = some 3 by kernel_rfl).symm.trans hf) |>.symm
      obtain rfl : fn = Tryz.f3 := (Option.some.inj (Tryz.func3.symm.trans hfn)).symm
      exact ⟨by kernel_rfl, fun j t ht => by
        rw [Tryz.params3] at ht
        have hm : t ∈ [22, 22] := by simpa using Array.mem_of_getElem? ht
        have hall : ([22, 22].all fun u => !Tryz.prog.wantsStandIn u) = true := by kernel_rfl
        exact (show Tryz.prog.wantsStandIn t = false by simpa using List.all_eq_true.1 hall t hm)⟩)
    (by kernel_rfl)
end Go.Proofs.YtdgoejkijpllpaaGreatDoor
