/- Texts of the claim, part 4. -/
import Derived.Test.YtdgoejkijpllpaaGreatDoorRows
import Derived.Test.YtdgoejkijpllpaaGreatDoorZEnds3

set_option linter.unusedVariables false
set_option linter.unusedSimpArgs false
set_option maxRecDepth 100000
set_option maxHeartbeats 1000000
namespace Go.M
open Go.AV
theorem splitC_cnt {c : UInt8} : ∀ s : Str, (splitC c s).length ≤ s.length + 1
  | [] => by simp [splitC]
  | b :: s => by
    have ih := splitC_cnt (c := c) s
    rw [splitC_cons]
    split
    · simp; omega
    · cases hs : splitC c s with
      | nil => exact absurd hs (splitC_ne c s)
      | cons w ws => rw [hs] at ih; simp [addP] at ih ⊢; omega
theorem sumT (l : List Str) : sizeL (fun x : Str => x.length) l = l.length + (l.map List.length).sum := rfl
theorem place_size (ws : List Str) (n : Nat) (hc : ws.length ≤ n + 1) (hs : (ws.map List.length).sum ≤ n) (v : Int) (f : Str → Int) (i : Nat) : (TPlaces.size ⟨v, od ws i, (ev ws i).map f⟩) ≤ 2 * i + n := by
  unfold TPlaces.size
  dsimp only
  rw [sumT, List.length_map]
  have h1 := od_len ws i
  have h2 := ev_len ws i
  have h3 := od_sum ws i
  have h4 : ((ws.take i).map List.length).sum ≤ (ws.map List.length).sum := by
    conv => rhs; rw [← List.take_append_drop i ws]
    rw [List.map_append, List.sum_append]; omega
  omega
theorem all_snoc (f : Str → Bool) (l : List Str) (x : Str) : (l ++ [x]).all f = (l.all f && f x) := by simp [List.all_append]
theorem mod2 (i : Nat) : ((i : Int).tmod 2 == 1) = decide (i % 2 = 1) := by
  rw [show (i : Int).tmod 2 = ((i % 2 : Nat) : Int) from rfl]
  by_cases h : i % 2 = 1
  · rw [h]; rfl
  · have h2 : i % 2 = 0 := by omega
    rw [h2]; rfl
theorem parsePS_not {s : Str} (h : (splitC 32 s).length ≠ 2) : parsePS s = (noPlaces, false) := by
  unfold parsePS
  split
  · rename_i e; rw [e] at h; exact absurd rfl h
  · rfl
theorem parsePS_two {s a b : Str} (h : splitC 32 s = [a, b]) : parsePS s = if (!goodPlacesS (placeS a b) || (placesB (placeS a b) != s)) = true then (noPlaces, false) else (placeS a b, true) := by unfold parsePS; rw [h]
end Go.M
namespace Go.AV
section
variable {P : Program} {G : Nat → Prop} {n : Nat} {own : List Own}
theorem le_retag {env : List (Nat × AV)} {t : Nat} {x : AV} {T T' : World → Prop} (i : Nat) (hi : own[i]? = some (.tab T')) (hT : ∀ w, T' w → T w) (ht : getv t env = some x) : Le G n ⟨own, env⟩ ⟨own, (t, AV.wt T x) :: env⟩ := fun w0 R0 R a w ⟨h1, h2, h3⟩ => by
  refine ⟨R, RSub.refl _, h1, fun k z hz => ?_, h3⟩
  simp only [getv] at hz
  by_cases hk : t = k
  · subst hk
    simp [Nat.beq_refl] at hz
    rw [← hz]
    exact ⟨h2 t _ ht, fun w' hw' => hT w' ((h1.owned _ (List.mem_of_getElem? hi)) w' hw')⟩
  · rw [nat_beq_ne hk, cond_false] at hz
    exact h2 k z hz
end
end Go.AV
namespace Go.Proofs.YtdgoejkijpllpaaGreatDoor
open Go Go.AV Go.M
attribute [local irreducible] OpW OpA OpS AWP FSpec ESpec GSpec OpE RetOk RetOkG RvDen Le Ev GuardIs SrcIs Int.tmod Int.tdiv IntKind.wrap
theorem readPlaces_own (s : Str) (hs : s.length ≤ 1048576) : GSpec Tryz.prog 9 [AV.wt readW (AV.str s)] [] (fun _ : Value × Value => True) (fun x => TPlaces.ow (parseP s).1 x) (fun x => AV.tup [AV.agg (TPlaces.ocs (parseP s).1 x), AV.bool (parseP s).2]) := by
  have hcl := cutL_len s 32
  refine gspec_of_awp Tryz.func9 rfl Tryz.ntmps9 rfl ?_
  refine AWP.le (le_tab (t := 0) rfl) ?_
  refine awp_seq ?_
  refine awp_region ?_
  refine sq_alloc rfl rfl rfl rfl Tryz.zeroValue26 rfl ?_
  intro b2
  refine sq_plain rfl rfl rfl (w_assign rfl ev_cb) ?_
  refine sq_nil ?_
  refine awp_seq ?_
  refine awp_region ?_
  refine sq_plain rfl rfl rfl (w_move rfl (ev_tmp rfl)) ?_
  refine sq_plain rfl rfl rfl (w_callT 1 rfl rfl Tryz.call25 rfl (cut_spec s 32 hs) (evl_cons (ev_tmp rfl) (evl_cons (ev_cs' (l := [32]) rfl) evl_nil)) (by first | exact fun _ h => h | exact fun _ h => h.1)) ?_
  refine sq_plain rfl rfl rfl (w_move rfl (ev_tmp rfl)) ?_
  refine sq_plain rfl rfl rfl (w_extract rfl (ev_tmp rfl) rfl) ?_
  refine sq_plain rfl rfl rfl (w_extract rfl (ev_tmp rfl) rfl) ?_
  refine sq_plain rfl rfl rfl (w_extract rfl (ev_tmp rfl) rfl) ?_
  refine sq_plain rfl rfl rfl (w_assign rfl (ev_tmp rfl)) ?_
  refine sq_plain rfl rfl rfl (w_assign rfl (ev_tmp rfl)) ?_
  refine sq_plain rfl rfl rfl (w_assign rfl (ev_tmp rfl)) ?_
  refine sq_nil ?_
  refine awp_seq ?_
  refine awp_region ?_
  refine sq_plain rfl rfl rfl (w_move rfl (ev_tmp rfl)) ?_
  refine sq_plain rfl rfl rfl (w_callT 1 rfl rfl Tryz.call26 rfl (readInt_spec _ 0 50 (by omega)) (evl_cons (ev_tmp rfl) (evl_cons ev_ci (evl_cons ev_ci evl_nil))) (by first | exact fun _ h => h | exact fun _ h => h.1)) ?_
  refine sq_plain rfl rfl rfl (w_move rfl (ev_tmp rfl)) ?_
  refine sq_plain rfl rfl rfl (w_extract rfl (ev_tmp rfl) rfl) ?_
  refine sq_plain rfl rfl rfl (w_extract rfl (ev_tmp rfl) rfl) ?_
  refine sq_plain rfl rfl rfl (w_assign rfl (ev_tmp rfl)) ?_
  refine sq_plain rfl rfl rfl (w_assign rfl (ev_tmp rfl)) ?_
  refine sq_nil ?_
  refine awp_seq ?_
  refine awp_region ?_
  refine sq_plain rfl rfl rfl (w_move rfl (ev_tmp rfl)) ?_
  refine sq_plain rfl rfl rfl (w_build (places := #[(0, 1), (1, 1), (2, 1)]) rfl Tryz.underlying26 Tryz.zeroValue26 (fun w => by kernel_rfl) rfl (bp_cons (ev_tmp rfl) (as_ik _ _) bp_nil) rfl) ?_
  refine sq_alloc rfl rfl rfl rfl Tryz.zeroValue26 rfl ?_
  intro b9
  refine sq_storeB0 0 rfl rfl rfl (ev_tmp rfl) (ev_tmp rfl) (as_agg _) rfl Tryz.sizeOf26 rfl ?_
  refine sq_nil ?_
  refine awp_seq ?_
  refine awp_seq ?_
  refine awp_region ?_
  refine sq_plain rfl rfl rfl (w_move rfl (ev_tmp rfl)) ?_
  refine sq_plain rfl rfl rfl (w_callT 2 rfl rfl Tryz.call27 rfl (split_spec _ 124 (by omega)) (evl_cons (ev_tmp rfl) (evl_cons (ev_cs' (l := [124]) rfl) evl_nil)) (by first | exact fun _ h => h | exact fun _ h => h.1)) ?_
  obtain ⟨ws, hws⟩ : ∃ ws, splitC 124 (Lib.cut s [32]).2.1 = ws := ⟨_, rfl⟩
  have hwl := splitC_cnt (c := 124) (Lib.cut s [32]).2.1
  have hwsum := splitC_sum (c := 124) (Lib.cut s [32]).2.1
  rw [hws] at hwl hwsum
  rw [hws]
  refine sq_plain rfl rfl rfl (w_llen rfl Tryz.underlying23 (ev_tmp rfl)) ?_
  refine sq_plain rfl rfl rfl (w_move rfl ev_ci) ?_
  refine sq_nil ?_
  refine awp_block ?_
  refine awp_own (by first | (simp only [id, pick, List.eraseIdx_cons_zero, List.eraseIdx_cons_succ, List.set_cons_zero, List.set_cons_succ, List.cons_append, List.nil_append, List.getElem?_cons_zero, List.getElem?_cons_succ, List.append_nil, List.take_succ_cons, List.take_zero, List.drop_succ_cons, List.drop_zero]; exact rfl) | exact rfl) ?_
  refine awp_nilown 9 1 ?_
  refine awp_nilown 3 1 ?_
  refine AWP.le (le_pick [2, 1, 0] rfl) ?_
  refine awp_loop_i4 [(0, _), (2, _), (3, _), (9, _), (28, _), (29, _)] _ (fun (i : Nat) (ok : Bool) (vc : Value) (vg : Value) => i ≤ ws.length ∧ ok = ((readI (Lib.cut s [32]).1 0 50).2 && readsOk (ev ws i))) (fun (i : Nat) (ok : Bool) (vc : Value) (vg : Value) => [.box b9 26 [AV.int (readI (Lib.cut s [32]).1 0 50).1, AV.is vc, AV.is vg], .arr vc 9 1 ((od ws i).map fun x => [AV.str x]), .arr vg 3 1 ((readsI (ev ws i)).map fun x => [AV.int x])]) (fun (i : Nat) (ok : Bool) (vc : Value) (vg : Value) => [(8, AV.bool ok), (30, AV.int i)]) (fun (i : Nat) (ok : Bool) (vc : Value) (vg : Value) => ws.length - i) (0) ((readI (Lib.cut s [32]).1 0 50).2) ((Value.slice none 0 0)) ((Value.slice none 0 0)) ?_ (le_eq (by rfl) ⟨rfl, rfl, rfl, rfl, rfl, rfl, rfl, rfl, trivial⟩) ?_
  · exact ⟨Nat.zero_le _, by simp [readsOk, ev]⟩
  intro i ok vc vg hinv
  have hol := od_len ws i
  have hel := ev_len ws i
  have hrl : (readsI (ev ws i)).length = (ev ws i).length := List.length_map ..
  refine awp_seq ?_
  refine awp_region ?_
  refine sq_plain rfl rfl rfl (w_lss rfl (ev_tmp rfl) (ev_tmp rfl)) ?_
  refine sq_nil ?_
  refine awp_seq ?_
  refine awp_cond (ev_tmp rfl) ?_ ?_
  · intro h31
    have k31 := of_decide_eq_true h31; try simp only [List.length_map] at k31
    obtain ⟨x, hx⟩ := get_some (show i < ws.length by omega)
    have hxl : x.length ≤ s.length := (by (have h9 := splitC_len (c := 124) (s := (Lib.cut s [32]).2.1) (w := x) (by rw [hws]; exact List.mem_of_getElem? hx)); omega)
    refine awp_skip ?_
    refine awp_seq ?_
    refine awp_block ?_
    refine awp_seq ?_
    refine awp_region ?_
    refine sq_plain rfl rfl rfl (w_move rfl (ev_tmp rfl)) ?_
    refine sq_plain rfl rfl rfl (w_idxm rfl Tryz.underlying23 Tryz.sizeOf9 (ev_tmp rfl) (ev_tmp rfl) hx (by first | omega | ((try simp only [List.length_map, List.length_take, List.length_cons, List.length_nil, chunks_len, szR] at *); omega) | (have hc2 := hc; simp only [Bool.and_eq_true, Bool.or_eq_true, Bool.or_eq_false_iff, Bool.and_eq_false_iff, Bool.not_eq_true', Bool.not_eq_false', decide_eq_true_eq, decide_eq_false_iff_not, beq_iff_eq, bne_iff_ne, List.length_map, List.length_take] at hc2; omega))) ?_
    refine sq_plain rfl rfl rfl (w_loadE1 rfl (ev_tmp rfl) Tryz.isAgg9 rfl) ?_
    refine sq_plain rfl rfl rfl (w_assign rfl (ev_tmp rfl)) ?_
    refine sq_plain rfl rfl rfl (w_assign rfl (ev_tmp rfl)) ?_
    refine sq_nil ?_
    refine awp_seq ?_
    refine awp_seq ?_
    refine awp_region ?_
    refine sq_plain rfl rfl rfl (w_move rfl (ev_tmp rfl)) ?_
    refine sq_plain rfl rfl rfl (w_rem rfl (ev_tmp rfl) ev_ci (by decide)) ?_
    refine sq_plain rfl rfl rfl (w_eql rfl (ev_tmp rfl) ev_ci) ?_
    refine sq_nil ?_
    refine awp_cond (ev_tmp rfl) ?_ ?_
    · intro h37
      have k37 := eq_of_beqt h37; try simp only [List.length_map] at k37
      have hodd : i % 2 = 1 := (by rw [mod2] at h37; simpa using h37)
      refine awp_seq ?_
      refine awp_region ?_
      refine sq_plain rfl rfl rfl (w_fldBn 1 rfl Tryz.underlying26 rfl Tryz.sizeOf23 (ev_tmp rfl) rfl) ?_
      refine sq_plain rfl rfl rfl (w_loadB1 0 rfl (ev_tmp rfl) rfl Tryz.isAgg23 rfl) ?_
      refine sq_plain rfl rfl rfl (w_move rfl (ev_tmp rfl)) ?_
      refine sq_plain rfl rfl rfl (w_bslice rfl Tryz.underlying23 Tryz.sizeOf9 Tryz.zeroValue9 rfl rfl rfl rfl (bp_cons (ev_tmp rfl) (as_str _) bp_nil) rfl rfl) ?_
      refine sq_append (by' := 16) 1 rfl rfl rfl rfl Tryz.underlying23 Tryz.type9 rfl rfl rfl rfl rfl rfl (ev_tmp rfl) (ev_tmp rfl) rfl (by first | omega | ((try simp only [List.length_map, List.length_take, List.length_cons, List.length_nil, chunks_len, szR] at *); omega) | (have hc2 := hc; simp only [Bool.and_eq_true, Bool.or_eq_true, Bool.or_eq_false_iff, Bool.and_eq_false_iff, Bool.not_eq_true', Bool.not_eq_false', decide_eq_true_eq, decide_eq_false_iff_not, beq_iff_eq, bne_iff_ne, List.length_map, List.length_take] at hc2; omega)) ?_
      intro v42_1
      refine sq_plain rfl rfl rfl (w_fldBn 1 rfl Tryz.underlying26 rfl Tryz.sizeOf23 (ev_tmp rfl) rfl) ?_
      refine sq_fact 1 rfl fun one_v42_1 => ?_
      refine sq_storeB1 0 rfl rfl rfl (ev_tmp rfl) (ev_tmp rfl) (as_is one_v42_1) rfl Tryz.sizeOf23 rfl ?_
      refine sq_nil ?_
      refine awp_exit ?_
      refine awp_region ?_
      refine sq_plain rfl rfl rfl (w_addi rfl (ev_tmp rfl) ev_ci (by first | omega | ((try simp only [List.length_map, List.length_take, List.length_cons, List.length_nil, chunks_len, szR] at *); omega) | (have hc2 := hc; simp only [Bool.and_eq_true, Bool.or_eq_true, Bool.or_eq_false_iff, Bool.and_eq_false_iff, Bool.not_eq_true', Bool.not_eq_false', decide_eq_true_eq, decide_eq_false_iff_not, beq_iff_eq, bne_iff_ne, List.length_map, List.length_take] at hc2; omega))) ?_
      refine sq_plain rfl rfl rfl (w_move rfl (ev_tmp rfl)) ?_
      refine sq_nil ?_
      refine round_end4 i ok vc vg (i + 1) (ok) (v42_1) (vg) ?_ ?_ (Le.trans (le_pick [0, 0, 0] rfl) (le_eq (by first | (rw [od_odd hx hodd, ev_odd hodd, List.map_append]; rfl) | (rw [od_even hodd, ev_even hx hodd]; unfold readsI; rw [List.map_append, List.map_append]; rfl)) ⟨rfl, rfl, rfl, rfl, rfl, rfl, rfl, rfl, trivial⟩))
      · exact ⟨by omega, by rw [ev_odd hodd]; exact hinv.2⟩
      · omega
    · intro h37
      have k37 := ne_of_beqf h37; try simp only [List.length_map] at k37
      have hodd : ¬ i % 2 = 1 := (by rw [mod2] at h37; simpa using h37)
      refine awp_skip ?_
      refine awp_seq ?_
      refine awp_region ?_
      refine sq_plain rfl rfl rfl (w_move rfl (ev_tmp rfl)) ?_
      refine sq_plain rfl rfl rfl (w_callT 4 rfl rfl Tryz.call26 rfl (readInt_spec x 0 3 (by omega)) (evl_cons (ev_tmp rfl) (evl_cons ev_ci (evl_cons ev_ci evl_nil))) (by first | exact fun _ h => h | exact fun _ h => h.1)) ?_
      refine sq_plain rfl rfl rfl (w_move rfl (ev_tmp rfl)) ?_
      refine sq_plain rfl rfl rfl (w_extract rfl (ev_tmp rfl) rfl) ?_
      refine sq_plain rfl rfl rfl (w_extract rfl (ev_tmp rfl) rfl) ?_
      refine sq_plain rfl rfl rfl (w_assign rfl (ev_tmp rfl)) ?_
      refine sq_plain rfl rfl rfl (w_assign rfl (ev_tmp rfl)) ?_
      refine sq_nil ?_
      refine awp_seq ?_
      refine awp_region ?_
      refine sq_plain rfl rfl rfl (w_move rfl (ev_tmp rfl)) ?_
      refine sq_plain rfl rfl rfl (w_move rfl (ev_tmp rfl)) ?_
      refine sq_grd rfl rfl (guard_t rfl rfl rfl) (fun hc => w_move rfl (ev_tmp rfl)) ?_
      refine sq_plain rfl rfl rfl (w_and rfl (ev_tmp rfl) (evif_w rfl)) ?_
      refine sq_plain rfl rfl rfl (w_assign rfl (ev_tmp rfl)) ?_
      refine sq_nil ?_
      refine awp_region ?_
      refine sq_plain rfl rfl rfl (w_fldBn 2 rfl Tryz.underlying26 rfl Tryz.sizeOf24 (ev_tmp rfl) rfl) ?_
      refine sq_plain rfl rfl rfl (w_loadB1 0 rfl (ev_tmp rfl) rfl Tryz.isAgg24 rfl) ?_
      refine sq_plain rfl rfl rfl (w_move rfl (ev_tmp rfl)) ?_
      refine sq_plain rfl rfl rfl (w_bslice rfl Tryz.underlying24 Tryz.sizeOf3 Tryz.zeroValue3 rfl rfl rfl rfl (bp_cons (ev_tmp rfl) (as_ik _ _) bp_nil) rfl rfl) ?_
      refine sq_append (by' := 8) 2 rfl rfl rfl rfl Tryz.underlying24 Tryz.type3 rfl rfl rfl rfl rfl rfl (ev_tmp rfl) (ev_tmp rfl) rfl (by first | omega | ((try simp only [List.length_map, List.length_take, List.length_cons, List.length_nil, chunks_len, szR] at *); omega) | (have hc2 := hc; simp only [Bool.and_eq_true, Bool.or_eq_true, Bool.or_eq_false_iff, Bool.and_eq_false_iff, Bool.not_eq_true', Bool.not_eq_false', decide_eq_true_eq, decide_eq_false_iff_not, beq_iff_eq, bne_iff_ne, List.length_map, List.length_take] at hc2; omega)) ?_
      intro v57_2
      refine sq_plain rfl rfl rfl (w_fldBn 2 rfl Tryz.underlying26 rfl Tryz.sizeOf24 (ev_tmp rfl) rfl) ?_
      refine sq_fact 2 rfl fun one_v57_2 => ?_
      refine sq_storeB1 0 rfl rfl rfl (ev_tmp rfl) (ev_tmp rfl) (as_is one_v57_2) rfl Tryz.sizeOf24 rfl ?_
      refine sq_nil ?_
      refine awp_region ?_
      refine sq_plain rfl rfl rfl (w_addi rfl (ev_tmp rfl) ev_ci (by first | omega | ((try simp only [List.length_map, List.length_take, List.length_cons, List.length_nil, chunks_len, szR] at *); omega) | (have hc2 := hc; simp only [Bool.and_eq_true, Bool.or_eq_true, Bool.or_eq_false_iff, Bool.and_eq_false_iff, Bool.not_eq_true', Bool.not_eq_false', decide_eq_true_eq, decide_eq_false_iff_not, beq_iff_eq, bne_iff_ne, List.length_map, List.length_take] at hc2; omega))) ?_
      refine sq_plain rfl rfl rfl (w_move rfl (ev_tmp rfl)) ?_
      refine sq_nil ?_
      refine round_end4 i ok vc vg (i + 1) (ok && (readI x 0 3).2) (vc) (v57_2) ?_ ?_ (Le.trans (le_pick [0, 0, 0] rfl) (le_eq (by first | (rw [od_odd hx hodd, ev_odd hodd, List.map_append]; rfl) | (rw [od_even hodd, ev_even hx hodd]; unfold readsI; rw [List.map_append, List.map_append]; rfl)) ⟨rfl, rfl, rfl, rfl, rfl, rfl, rfl, rfl, trivial⟩))
      · exact ⟨by omega, by rw [ev_even hx hodd, hinv.2]; unfold readsOk; rw [all_snoc, Bool.and_assoc]⟩
      · omega
  · intro h31
    have k31 := of_decide_eq_false h31; try simp only [List.length_map] at k31
    have hin : i = ws.length := by omega
    subst hin
    have hpo : placeOf s = ⟨(readI (Lib.cut s [32]).1 0 50).1, od ws ws.length, readsI (ev ws ws.length)⟩ := (by unfold placeOf; rw [hws])
    have hok : placeOk s = ok := (by unfold placeOk; rw [hws]; exact hinv.2.symm)
    have hpz := place_size ws (Lib.cut s [32]).2.1.length hwl hwsum (readI (Lib.cut s [32]).1 0 50).1 (fun t => (readI t 0 3).1) ws.length
    refine awp_exit ?_
    refine awp_seq ?_
    refine awp_seq ?_
    refine awp_region ?_
    refine sq_plain rfl rfl rfl (w_move rfl (ev_tmp rfl)) ?_
    refine sq_plain rfl rfl rfl (w_not rfl (ev_tmp rfl)) ?_
    refine sq_plain rfl rfl rfl (w_move rfl (ev_tmp rfl)) ?_
    refine sq_grd rfl rfl (guard_f rfl rfl rfl) (fun hc => w_loadA 0 rfl (ev_tmp rfl) rfl Tryz.isAgg26 Tryz.sizeOf26 rfl) ?_
    refine sq_grd rfl rfl (guard_f rfl rfl rfl) (fun hc => w_callB rfl Tryz.call17 rfl (goodPlaces_spec ⟨(readI (Lib.cut s [32]).1 0 50).1, od ws ws.length, readsI (ev ws ws.length)⟩ (Nat.le_trans hpz (by omega))) (flat_bool _) (evlb_cons (evb_lt (ev_whn rfl hc) (lt_agg (lc_cons lt_refl (lc_cons (lt_arr (List.mem_of_getElem? (i := 1) rfl) le_refl_e) (lc_cons (lt_arr (List.mem_of_getElem? (i := 2) rfl) le_refl_e) lc_nil))))) evlb_nil)) ?_
    refine sq_grd rfl rfl (guard_f rfl rfl rfl) (fun hc => w_not rfl (ev_whn rfl hc)) ?_
    refine sq_plain rfl rfl rfl (w_or rfl (ev_tmp rfl) (evif_w rfl)) ?_
    refine sq_plain rfl rfl rfl (w_move rfl (ev_tmp rfl)) ?_
    refine sq_grd rfl rfl (guard_f rfl rfl rfl) (fun hc => w_loadA 0 rfl (ev_tmp rfl) rfl Tryz.isAgg26 Tryz.sizeOf26 rfl) ?_
    refine sq_grd rfl rfl (guard_f rfl rfl rfl) (fun hc => w_callB rfl Tryz.call24 rfl (placesText_spec ⟨(readI (Lib.cut s [32]).1 0 50).1, od ws ws.length, readsI (ev ws ws.length)⟩ (Nat.le_trans hpz (by omega)) (by simp only [Bool.not_eq_true', Bool.or_eq_false_iff, Bool.not_eq_false'] at hc; exact hc.2)) (flat_str _) (evlb_cons (evb_lt (ev_whn rfl hc) (lt_agg (lc_cons lt_refl (lc_cons (lt_arr (List.mem_of_getElem? (i := 1) rfl) le_refl_e) (lc_cons (lt_arr (List.mem_of_getElem? (i := 2) rfl) le_refl_e) lc_nil))))) evlb_nil)) ?_
    refine sq_grd rfl rfl (guard_f rfl rfl rfl) (fun hc => w_move rfl (ev_tmp rfl)) ?_
    refine sq_grd rfl rfl (guard_f rfl rfl rfl) (fun hc => w_sneq rfl (ev_whn rfl hc) (ev_whn rfl hc)) ?_
    refine sq_plain rfl rfl rfl (w_or rfl (ev_tmp rfl) (evif_w rfl)) ?_
    refine sq_nil ?_
    refine awp_cond (ev_tmp rfl) ?_ ?_
    · intro h72
      have he : parseP s = (noPlaces, false) := if_pos (by rw [hok, hpo]; exact h72)
      rw [he]
      refine awp_seq ?_
      refine awp_region ?_
      refine sq_plain rfl rfl rfl (w_build (places := #[(0, 1), (1, 1), (2, 1)]) rfl Tryz.underlying26 Tryz.zeroValue26 (fun w => by kernel_rfl) rfl bp_nil rfl) ?_
      refine sq_storeB0 3 rfl rfl rfl (ev_tmp rfl) (ev_tmp rfl) (as_agg _) rfl Tryz.sizeOf26 rfl ?_
      refine sq_plain rfl rfl rfl (w_assign rfl ev_cb) ?_
      refine sq_nil ?_
      refine awp_ret ?_
      refine retG_nil 9 1 ?_
      refine retG_nil 3 1 ?_
      exact retG [1, 0] ((Value.slice none 0 0), (Value.slice none 0 0)) (trivial) rfl (by rfl) (resN rfl (by decide) (rv_cons (rv_cell (ys := _) 5 rfl rfl Tryz.isAgg26 Tryz.sizeOf26 rfl) (rv_cons (rv_tmp' rfl (by rfl)) rv_nil)))
    · intro h72
      have he : parseP s = (placeOf s, true) := if_neg (by rw [hok, hpo, h72]; decide)
      rw [he, hpo]
      refine awp_skip ?_
      refine awp_seq ?_
      refine awp_region ?_
      refine sq_plain rfl rfl rfl (w_loadA 0 rfl (ev_tmp rfl) rfl Tryz.isAgg26 Tryz.sizeOf26 rfl) ?_
      refine sq_storeB0 3 rfl rfl rfl (ev_tmp rfl) (ev_tmp rfl) (as_agg _) rfl Tryz.sizeOf26 rfl ?_
      refine sq_plain rfl rfl rfl (w_assign rfl ev_cb) ?_
      refine sq_nil ?_
      refine awp_ret ?_
      exact retG [1, 1] (vc, vg) (trivial) rfl (by rfl) (resN rfl (by decide) (rv_cons (rv_cell (ys := _) 3 rfl rfl Tryz.isAgg26 Tryz.sizeOf26 rfl) (rv_cons (rv_tmp' rfl (by rfl)) rv_nil)))
theorem readPlacesS_own (s : Str) (hs : s.length ≤ 1048576) : GSpec Tryz.prog 14 [AV.str s] [] (fun _ : Value × Value => True) (fun x => TPlaces.ow (parsePS s).1 x) (fun x => AV.tup [AV.agg (TPlaces.ocs (parsePS s).1 x), AV.bool (parsePS s).2]) := by
  refine gspec_of_awp Tryz.func14 rfl Tryz.ntmps14 rfl ?_
  refine awp_seq ?_
  refine awp_region ?_
  refine sq_alloc rfl rfl rfl rfl Tryz.zeroValue26 rfl ?_
  intro b2
  refine sq_plain rfl rfl rfl (w_assign rfl ev_cb) ?_
  refine sq_nil ?_
  refine awp_seq ?_
  refine awp_region ?_
  refine sq_plain rfl rfl rfl (w_move rfl (ev_tmp rfl)) ?_
  refine sq_plain rfl rfl rfl (w_call rfl Tryz.call36 rfl (l1Split_spec s 32 hs) (evl_cons (ev_tmp rfl) (evl_cons ev_ci evl_nil))) ?_
  refine sq_plain rfl rfl rfl (w_assign rfl (ev_tmp rfl)) ?_
  refine sq_nil ?_
  refine awp_seq ?_
  refine awp_seq ?_
  refine awp_region ?_
  refine sq_plain rfl rfl rfl (w_move rfl (ev_tmp rfl)) ?_
  refine sq_plain rfl rfl rfl (w_llen rfl Tryz.underlying23 (ev_tmp rfl)) ?_
  refine sq_plain rfl rfl rfl (w_neq rfl (ev_tmp rfl) ev_ci) ?_
  refine sq_nil ?_
  refine awp_cond (ev_tmp rfl) ?_ ?_
  · intro h12
    have k12 := ne_of_bne h12; try simp only [List.length_map] at k12
    have he := parsePS_not (s := s) (by omega)
    rw [he]
    refine awp_seq ?_
    refine awp_region ?_
    refine sq_plain rfl rfl rfl (w_build (places := #[(0, 1), (1, 1), (2, 1)]) rfl Tryz.underlying26 Tryz.zeroValue26 (fun w => by kernel_rfl) rfl bp_nil rfl) ?_
    refine sq_storeB0 0 rfl rfl rfl (ev_tmp rfl) (ev_tmp rfl) (as_agg _) rfl Tryz.sizeOf26 rfl ?_
    refine sq_plain rfl rfl rfl (w_assign rfl ev_cb) ?_
    refine sq_nil ?_
    refine awp_ret ?_
    refine retG_nil 9 1 ?_
    refine retG_nil 3 1 ?_
    exact retG [1, 0] ((Value.slice none 0 0), (Value.slice none 0 0)) (trivial) rfl (by rfl) (resN rfl (by decide) (rv_cons (rv_cell (ys := _) 2 rfl rfl Tryz.isAgg26 Tryz.sizeOf26 rfl) (rv_cons (rv_tmp' rfl (by rfl)) rv_nil)))
  · intro h12
    have k12 := eq_of_bne_false h12; try simp only [List.length_map] at k12
    obtain ⟨a, b, hw⟩ := two_of (l := splitC 32 s) (by omega)
    have he := parsePS_two hw
    rw [he, hw]
    have hla : a.length ≤ s.length := splitC_len (c := 32) (by rw [hw]; exact List.mem_cons_self)
    have hlb : b.length ≤ s.length := splitC_len (c := 32) (by rw [hw]; exact List.mem_cons_of_mem _ List.mem_cons_self)
    refine awp_skip ?_
    refine awp_seq ?_
    refine awp_region ?_
    refine sq_plain rfl rfl rfl (w_move rfl (ev_tmp rfl)) ?_
    refine sq_plain rfl rfl rfl (w_idxm rfl Tryz.underlying23 Tryz.sizeOf9 (ev_tmp rfl) ev_ci (show [a, b][0]? = some a from rfl) (by first | omega | ((try simp only [List.length_map, List.length_take, List.length_cons, List.length_nil, chunks_len, szR] at *); omega) | (have hc2 := hc; simp only [Bool.and_eq_true, Bool.or_eq_true, Bool.or_eq_false_iff, Bool.and_eq_false_iff, Bool.not_eq_true', Bool.not_eq_false', decide_eq_true_eq, decide_eq_false_iff_not, beq_iff_eq, bne_iff_ne, List.length_map, List.length_take] at hc2; omega))) ?_
    refine sq_plain rfl rfl rfl (w_loadE1 rfl (ev_tmp rfl) Tryz.isAgg9 rfl) ?_
    refine sq_plain rfl rfl rfl (w_call rfl Tryz.call37 rfl (l1Read_spec a (by omega)) (evl_cons (ev_tmp rfl) evl_nil)) ?_
    refine sq_plain rfl rfl rfl (w_build (places := #[(0, 1), (1, 1), (2, 1)]) rfl Tryz.underlying26 Tryz.zeroValue26 (fun w => by kernel_rfl) rfl (bp_cons (ev_tmp rfl) (as_ik _ _) bp_nil) rfl) ?_
    refine sq_alloc rfl rfl rfl rfl Tryz.zeroValue26 rfl ?_
    intro b5
    refine sq_storeB0 0 rfl rfl rfl (ev_tmp rfl) (ev_tmp rfl) (as_agg _) rfl Tryz.sizeOf26 rfl ?_
    refine sq_nil ?_
    refine awp_seq ?_
    refine awp_seq ?_
    refine awp_region ?_
    refine sq_plain rfl rfl rfl (w_move rfl (ev_tmp rfl)) ?_
    refine sq_plain rfl rfl rfl (w_idxm rfl Tryz.underlying23 Tryz.sizeOf9 (ev_tmp rfl) ev_ci (show [a, b][1]? = some b from rfl) (by first | omega | ((try simp only [List.length_map, List.length_take, List.length_cons, List.length_nil, chunks_len, szR] at *); omega) | (have hc2 := hc; simp only [Bool.and_eq_true, Bool.or_eq_true, Bool.or_eq_false_iff, Bool.and_eq_false_iff, Bool.not_eq_true', Bool.not_eq_false', decide_eq_true_eq, decide_eq_false_iff_not, beq_iff_eq, bne_iff_ne, List.length_map, List.length_take] at hc2; omega))) ?_
    refine sq_plain rfl rfl rfl (w_loadE1 rfl (ev_tmp rfl) Tryz.isAgg9 rfl) ?_
    refine sq_plain rfl rfl rfl (w_call rfl Tryz.call36 rfl (l1Split_spec b 124 (by omega)) (evl_cons (ev_tmp rfl) (evl_cons ev_ci evl_nil))) ?_
    obtain ⟨ws, hws⟩ : ∃ ws, splitC 124 b = ws := ⟨_, rfl⟩
    have hwl := splitC_cnt (c := 124) b
    have hwsum := splitC_sum (c := 124) b
    rw [hws] at hwl hwsum
    rw [hws]
    refine sq_plain rfl rfl rfl (w_llen rfl Tryz.underlying23 (ev_tmp rfl)) ?_
    refine sq_plain rfl rfl rfl (w_move rfl ev_ci) ?_
    refine sq_nil ?_
    refine awp_block ?_
    refine awp_own (by first | (simp only [id, pick, List.eraseIdx_cons_zero, List.eraseIdx_cons_succ, List.set_cons_zero, List.set_cons_succ, List.cons_append, List.nil_append, List.getElem?_cons_zero, List.getElem?_cons_succ, List.append_nil, List.take_succ_cons, List.take_zero, List.drop_succ_cons, List.drop_zero]; exact rfl) | exact rfl) ?_
    refine awp_nilown 9 1 ?_
    refine awp_nilown 3 1 ?_
    refine AWP.le (le_pick [2, 1, 0] rfl) ?_
    refine awp_loop_i3 [(0, _), (2, _), (3, _), (5, _), (22, _), (23, _)] _ (fun (i : Nat) (vc : Value) (vg : Value) => i ≤ ws.length) (fun (i : Nat) (vc : Value) (vg : Value) => [.box b5 26 [AV.int (l1R a), AV.is vc, AV.is vg], .arr vc 9 1 ((od ws i).map fun x => [AV.str x]), .arr vg 3 1 (((ev ws i).map l1R).map fun x => [AV.int x])]) (fun (i : Nat) (vc : Value) (vg : Value) => [(24, AV.int i)]) (fun (i : Nat) (vc : Value) (vg : Value) => ws.length - i) (0) ((Value.slice none 0 0)) ((Value.slice none 0 0)) ?_ (le_eq (by rfl) ⟨rfl, rfl, rfl, rfl, rfl, rfl, rfl, trivial⟩) ?_
    · exact Nat.zero_le _
    intro i vc vg hinv
    have hol := od_len ws i
    have hel := ev_len ws i
    have hrl : ((ev ws i).map l1R).length = (ev ws i).length := List.length_map ..
    refine awp_seq ?_
    refine awp_region ?_
    refine sq_plain rfl rfl rfl (w_lss rfl (ev_tmp rfl) (ev_tmp rfl)) ?_
    refine sq_nil ?_
    refine awp_seq ?_
    refine awp_cond (ev_tmp rfl) ?_ ?_
    · intro h25
      have k25 := of_decide_eq_true h25; try simp only [List.length_map] at k25
      obtain ⟨x, hx⟩ := get_some (show i < ws.length by omega)
      have hxl : x.length ≤ b.length := splitC_len (c := 124) (by rw [hws]; exact List.mem_of_getElem? hx)
      refine awp_skip ?_
      refine awp_seq ?_
      refine awp_block ?_
      refine awp_seq ?_
      refine awp_region ?_
      refine sq_plain rfl rfl rfl (w_move rfl (ev_tmp rfl)) ?_
      refine sq_plain rfl rfl rfl (w_idxm rfl Tryz.underlying23 Tryz.sizeOf9 (ev_tmp rfl) (ev_tmp rfl) hx (by first | omega | ((try simp only [List.length_map, List.length_take, List.length_cons, List.length_nil, chunks_len, szR] at *); omega) | (have hc2 := hc; simp only [Bool.and_eq_true, Bool.or_eq_true, Bool.or_eq_false_iff, Bool.and_eq_false_iff, Bool.not_eq_true', Bool.not_eq_false', decide_eq_true_eq, decide_eq_false_iff_not, beq_iff_eq, bne_iff_ne, List.length_map, List.length_take] at hc2; omega))) ?_
      refine sq_plain rfl rfl rfl (w_loadE1 rfl (ev_tmp rfl) Tryz.isAgg9 rfl) ?_
      refine sq_plain rfl rfl rfl (w_assign rfl (ev_tmp rfl)) ?_
      refine sq_plain rfl rfl rfl (w_assign rfl (ev_tmp rfl)) ?_
      refine sq_nil ?_
      refine awp_seq ?_
      refine awp_region ?_
      refine sq_plain rfl rfl rfl (w_move rfl (ev_tmp rfl)) ?_
      refine sq_plain rfl rfl rfl (w_rem rfl (ev_tmp rfl) ev_ci (by decide)) ?_
      refine sq_plain rfl rfl rfl (w_eql rfl (ev_tmp rfl) ev_ci) ?_
      refine sq_nil ?_
      refine awp_cond (ev_tmp rfl) ?_ ?_
      · intro h31
        have k31 := eq_of_beqt h31; try simp only [List.length_map] at k31
        have hodd : i % 2 = 1 := (by rw [mod2] at h31; simpa using h31)
        refine awp_region ?_
        refine sq_plain rfl rfl rfl (w_fldBn 1 rfl Tryz.underlying26 rfl Tryz.sizeOf23 (ev_tmp rfl) rfl) ?_
        refine sq_plain rfl rfl rfl (w_loadB1 0 rfl (ev_tmp rfl) rfl Tryz.isAgg23 rfl) ?_
        refine sq_plain rfl rfl rfl (w_move rfl (ev_tmp rfl)) ?_
        refine sq_plain rfl rfl rfl (w_bslice rfl Tryz.underlying23 Tryz.sizeOf9 Tryz.zeroValue9 rfl rfl rfl rfl (bp_cons (ev_tmp rfl) (as_str _) bp_nil) rfl rfl) ?_
        refine sq_append (by' := 16) 1 rfl rfl rfl rfl Tryz.underlying23 Tryz.type9 rfl rfl rfl rfl rfl rfl (ev_tmp rfl) (ev_tmp rfl) rfl (by first | omega | ((try simp only [List.length_map, List.length_take, List.length_cons, List.length_nil, chunks_len, szR] at *); omega) | (have hc2 := hc; simp only [Bool.and_eq_true, Bool.or_eq_true, Bool.or_eq_false_iff, Bool.and_eq_false_iff, Bool.not_eq_true', Bool.not_eq_false', decide_eq_true_eq, decide_eq_false_iff_not, beq_iff_eq, bne_iff_ne, List.length_map, List.length_take] at hc2; omega)) ?_
        intro v36_3
        refine sq_plain rfl rfl rfl (w_fldBn 1 rfl Tryz.underlying26 rfl Tryz.sizeOf23 (ev_tmp rfl) rfl) ?_
        refine sq_fact 1 rfl fun one_v36_3 => ?_
        refine sq_storeB1 0 rfl rfl rfl (ev_tmp rfl) (ev_tmp rfl) (as_is one_v36_3) rfl Tryz.sizeOf23 rfl ?_
        refine sq_nil ?_
        refine awp_region ?_
        refine sq_plain rfl rfl rfl (w_addi rfl (ev_tmp rfl) ev_ci (by first | omega | ((try simp only [List.length_map, List.length_take, List.length_cons, List.length_nil, chunks_len, szR] at *); omega) | (have hc2 := hc; simp only [Bool.and_eq_true, Bool.or_eq_true, Bool.or_eq_false_iff, Bool.and_eq_false_iff, Bool.not_eq_true', Bool.not_eq_false', decide_eq_true_eq, decide_eq_false_iff_not, beq_iff_eq, bne_iff_ne, List.length_map, List.length_take] at hc2; omega))) ?_
        refine sq_plain rfl rfl rfl (w_move rfl (ev_tmp rfl)) ?_
        refine sq_nil ?_
        refine round_end3 i vc vg (i + 1) (v36_3) (vg) ?_ ?_ (Le.trans (le_pick [0, 0, 0] rfl) (le_eq (by first | (rw [od_odd hx hodd, ev_odd hodd, List.map_append]; rfl) | (rw [od_even hodd, ev_even hx hodd, List.map_append, List.map_append]; rfl)) ⟨rfl, rfl, rfl, rfl, rfl, rfl, rfl, trivial⟩))
        · exact (by omega)
        · omega
      · intro h31
        have k31 := ne_of_beqf h31; try simp only [List.length_map] at k31
        have hodd : ¬ i % 2 = 1 := (by rw [mod2] at h31; simpa using h31)
        refine AWP.le (le_pick [0, 0, 0] rfl) ?_
        refine awp_region_tail 5 (by kernel_rfl) (by kernel_rfl) rfl ?_
        refine ch_plain rfl rfl (w_fldBn 2 rfl Tryz.underlying26 rfl Tryz.sizeOf24 (ev_tmp rfl) rfl) ?_
        refine ch_plain rfl rfl (w_loadB1 0 rfl (ev_tmp rfl) rfl Tryz.isAgg24 rfl) ?_
        refine ch_plain rfl rfl (w_move rfl (ev_tmp rfl)) ?_
        refine ch_plain rfl rfl (w_call rfl Tryz.call37 rfl (l1Read_spec x (by omega)) (evl_cons (ev_tmp rfl) evl_nil)) ?_
        refine ch_plain rfl rfl (w_bslice rfl Tryz.underlying24 Tryz.sizeOf3 Tryz.zeroValue3 rfl rfl rfl rfl (bp_cons (ev_tmp rfl) (as_ik _ _) bp_nil) rfl rfl) ?_
        refine ch_nil ?_
        refine sq_append (by' := 8) 2 rfl rfl rfl rfl Tryz.underlying24 Tryz.type3 rfl rfl rfl rfl rfl rfl (ev_tmp rfl) (ev_tmp rfl) rfl (by first | omega | ((try simp only [List.length_map, List.length_take, List.length_cons, List.length_nil, chunks_len, szR] at *); omega) | (have hc2 := hc; simp only [Bool.and_eq_true, Bool.or_eq_true, Bool.or_eq_false_iff, Bool.and_eq_false_iff, Bool.not_eq_true', Bool.not_eq_false', decide_eq_true_eq, decide_eq_false_iff_not, beq_iff_eq, bne_iff_ne, List.length_map, List.length_take] at hc2; omega)) ?_
        intro v43_4
        refine sq_plain rfl rfl rfl (w_fldBn 2 rfl Tryz.underlying26 rfl Tryz.sizeOf24 (ev_tmp rfl) rfl) ?_
        refine sq_fact 2 rfl fun one_v43_4 => ?_
        refine sq_storeB1 0 rfl rfl rfl (ev_tmp rfl) (ev_tmp rfl) (as_is one_v43_4) rfl Tryz.sizeOf24 rfl ?_
        refine sq_nil ?_
        refine awp_region ?_
        refine sq_plain rfl rfl rfl (w_addi rfl (ev_tmp rfl) ev_ci (by first | omega | ((try simp only [List.length_map, List.length_take, List.length_cons, List.length_nil, chunks_len, szR] at *); omega) | (have hc2 := hc; simp only [Bool.and_eq_true, Bool.or_eq_true, Bool.or_eq_false_iff, Bool.and_eq_false_iff, Bool.not_eq_true', Bool.not_eq_false', decide_eq_true_eq, decide_eq_false_iff_not, beq_iff_eq, bne_iff_ne, List.length_map, List.length_take] at hc2; omega))) ?_
        refine sq_plain rfl rfl rfl (w_move rfl (ev_tmp rfl)) ?_
        refine sq_nil ?_
        refine round_end3 i vc vg (i + 1) (vc) (v43_4) ?_ ?_ (Le.trans (le_pick [0, 0, 0] rfl) (le_eq (by first | (rw [od_odd hx hodd, ev_odd hodd, List.map_append]; rfl) | (rw [od_even hodd, ev_even hx hodd, List.map_append, List.map_append]; rfl)) ⟨rfl, rfl, rfl, rfl, rfl, rfl, rfl, trivial⟩))
        · exact (by omega)
        · omega
    · intro h25
      have k25 := of_decide_eq_false h25; try simp only [List.length_map] at k25
      have hin : i = ws.length := by omega
      subst hin
      have hpo : placeS a b = ⟨l1R a, od ws ws.length, (ev ws ws.length).map l1R⟩ := (by unfold placeS; rw [hws])
      have hpz := place_size ws b.length hwl hwsum (l1R a) l1R ws.length
      rw [hpo]
      refine awp_exit ?_
      refine awp_seq ?_
      refine awp_seq ?_
      refine awp_region ?_
      refine sq_plain rfl rfl rfl (w_loadA 0 rfl (ev_tmp rfl) rfl Tryz.isAgg26 Tryz.sizeOf26 rfl) ?_
      refine sq_plain rfl rfl rfl (w_callB rfl Tryz.call20 rfl (goodPlacesS_spec ⟨l1R a, od ws ws.length, (ev ws ws.length).map l1R⟩ (Nat.le_trans hpz (by omega))) (flat_bool _) (evlb_cons (evb_lt (ev_tmp rfl) (lt_agg (lc_cons lt_refl (lc_cons (lt_arr (List.mem_of_getElem? (i := 1) rfl) le_refl_e) (lc_cons (lt_arr (List.mem_of_getElem? (i := 2) rfl) le_refl_e) lc_nil))))) evlb_nil)) ?_
      refine sq_plain rfl rfl rfl (w_not rfl (ev_tmp rfl)) ?_
      refine sq_plain rfl rfl rfl (w_move rfl (ev_tmp rfl)) ?_
      refine sq_grd rfl rfl (guard_f rfl rfl rfl) (fun hc => w_loadA 0 rfl (ev_tmp rfl) rfl Tryz.isAgg26 Tryz.sizeOf26 rfl) ?_
      refine sq_grd rfl rfl (guard_f rfl rfl rfl) (fun hc => w_callB rfl Tryz.call32 rfl (l20Text_spec ⟨l1R a, od ws ws.length, (ev ws ws.length).map l1R⟩ (Nat.le_trans hpz (by omega)) (by rw [goodPlaces_eq]; simpa using hc)) (flat_str _) (evlb_cons (evb_lt (ev_whn rfl hc) (lt_agg (lc_cons lt_refl (lc_cons (lt_arr (List.mem_of_getElem? (i := 1) rfl) le_refl_e) (lc_cons (lt_arr (List.mem_of_getElem? (i := 2) rfl) le_refl_e) lc_nil))))) evlb_nil)) ?_
      refine sq_grd rfl rfl (guard_f rfl rfl rfl) (fun hc => w_move rfl (ev_tmp rfl)) ?_
      refine sq_grd rfl rfl (guard_f rfl rfl rfl) (fun hc => w_sneq rfl (ev_whn rfl hc) (ev_whn rfl hc)) ?_
      refine sq_plain rfl rfl rfl (w_or rfl (ev_tmp rfl) (evif_w rfl)) ?_
      refine sq_nil ?_
      refine awp_cond (ev_tmp rfl) ?_ ?_
      · intro h54
        rw [if_pos h54]
        refine awp_seq ?_
        refine awp_region ?_
        refine sq_plain rfl rfl rfl (w_build (places := #[(0, 1), (1, 1), (2, 1)]) rfl Tryz.underlying26 Tryz.zeroValue26 (fun w => by kernel_rfl) rfl bp_nil rfl) ?_
        refine sq_storeB0 3 rfl rfl rfl (ev_tmp rfl) (ev_tmp rfl) (as_agg _) rfl Tryz.sizeOf26 rfl ?_
        refine sq_plain rfl rfl rfl (w_assign rfl ev_cb) ?_
        refine sq_nil ?_
        refine awp_ret ?_
        refine retG_nil 9 1 ?_
        refine retG_nil 3 1 ?_
        exact retG [1, 0] ((Value.slice none 0 0), (Value.slice none 0 0)) (trivial) rfl (by rfl) (resN rfl (by decide) (rv_cons (rv_cell (ys := _) 5 rfl rfl Tryz.isAgg26 Tryz.sizeOf26 rfl) (rv_cons (rv_tmp' rfl (by rfl)) rv_nil)))
      · intro h54
        rw [if_neg (by rw [h54]; decide)]
        refine awp_skip ?_
        refine awp_seq ?_
        refine awp_region ?_
        refine sq_plain rfl rfl rfl (w_loadA 0 rfl (ev_tmp rfl) rfl Tryz.isAgg26 Tryz.sizeOf26 rfl) ?_
        refine sq_storeB0 3 rfl rfl rfl (ev_tmp rfl) (ev_tmp rfl) (as_agg _) rfl Tryz.sizeOf26 rfl ?_
        refine sq_plain rfl rfl rfl (w_assign rfl ev_cb) ?_
        refine sq_nil ?_
        refine awp_ret ?_
        exact retG [1, 1] (vc, vg) (trivial) rfl (by rfl) (resN rfl (by decide) (rv_cons (rv_cell (ys := _) 3 rfl rfl Tryz.isAgg26 Tryz.sizeOf26 rfl) (rv_cons (rv_tmp' rfl (by rfl)) rv_nil)))
theorem readPlacesS_spec (s : Str) (hs : s.length ≤ 1048576) : FSpec Tryz.prog 14 [AV.str s] (AV.tup [AV.agg (parsePS s).1.cs, AV.bool (parsePS s).2]) :=
  fspec_of_gspec (readPlacesS_own s hs) fun x _ => lt_tup (lc_cons (lt_agg (TPlaces.lc _ x)) (lc_cons lt_refl lc_nil))
end Go.Proofs.YtdgoejkijpllpaaGreatDoor

set_option linter.unusedVariables false
set_option linter.unusedSimpArgs false
namespace Go.M
open Go.AV
/-- What a reader of choices holds: where it is, its seed. -/
structure TCur where
  p : Nat
  seed : Int
def bytesI (l : List Int) : AV := AV.list 1 (l.map fun x => [AV.ik .u8 x])
def curC (code : List Int) (c : TCur) : List AV := [bytesI code, AV.int c.p, AV.ik .u64 c.seed]
def ByteL (code : List Int) : Prop := ∀ x ∈ code, 0 ≤ x ∧ x ≤ 255
theorem byteL_of {l : List Int} (h : ∀ x ∈ l, (Lit.int .u8 x).wf = true) : ByteL l := fun x hx => by
  have := h x hx
  simp only [Lit.wf, IntKind.min, IntKind.max, IntKind.signed, IntKind.bits] at this
  simp at this
  omega
theorem wrapS {x : Int} (h : 0 ≤ x ∧ x ≤ 255) : IntKind.i64.wrap x = x := in64 (by omega)
theorem bandI_255 (x : Int) : 0 ≤ bandI x 255 ∧ bandI x 255 ≤ 255 := by
  unfold bandI
  have h1 : (BitVec.ofInt IntKind.u64.bits x &&& BitVec.ofInt IntKind.u64.bits 255).toNat ≤ 255 := by
    rw [BitVec.toNat_and]
    exact Nat.le_trans Nat.and_le_right (by decide)
  generalize (BitVec.ofInt IntKind.u64.bits x &&& BitVec.ofInt IntKind.u64.bits 255).toNat = n at h1
  unfold IntKind.wrap
  simp [IntKind.bits, IntKind.signed]
  omega
def bigB (code more : List Int) : Bool := decide ((1048576 : Int) < code.length) || decide ((1048576 : Int) - code.length < more.length)
end Go.M

set_option linter.unusedVariables false
set_option linter.unusedSimpArgs false
set_option maxRecDepth 100000
namespace Go.Proofs.YtdgoejkijpllpaaGreatDoor
open Go Go.AV Go.M
attribute [local irreducible] OpW OpA OpS AWP FSpec ESpec GSpec OpE RetOk RetOkG RvDen Le Ev GuardIs SrcIs Int.tmod IntKind.wrap bandI
theorem curNext_own (b : Nat) (code : List Int) (hcode : ByteL code) (c : TCur) (hp : c.p ≤ 8000000) : GSpec Tryz.prog 51 [AV.ptr b 0] [.box b 45 (curC code c)] (fun x : TCur × Int => x.1.p ≤ c.p + 1 ∧ 0 ≤ x.2 ∧ x.2 ≤ 255) (fun x => [.box b 45 (curC code x.1)]) (fun x => AV.int x.2) := by
  have hcb := hcode
  refine gspec_of_awp Tryz.func51 rfl Tryz.ntmps51 rfl ?_
  refine awp_seq ?_
  refine awp_region ?_
  refine sq_plain rfl rfl rfl (w_assign rfl ev_ci) ?_
  refine sq_nil ?_
  refine awp_seq ?_
  refine awp_region ?_
  try rw [wrapS hzb]
  refine sq_plain rfl rfl rfl (w_assign rfl ev_ci) ?_
  refine sq_nil ?_
  refine awp_seq ?_
  refine awp_seq ?_
  refine awp_region_any (by kernel_rfl) (by kernel_rfl) rfl ?_
  refine ch_plain rfl rfl (w_move rfl (ev_tmp rfl)) ?_
  refine ch_plain rfl rfl (w_nilB rfl (ev_tmp rfl)) ?_
  refine ch_plain rfl rfl (w_fldBn 1 rfl Tryz.underlying45 rfl Tryz.sizeOf3 (ev_tmp rfl) rfl) ?_
  refine ch_plain rfl rfl (w_loadB1 0 rfl (ev_tmp rfl) rfl Tryz.isAgg3 rfl) ?_
  refine ch_plain rfl rfl (w_move rfl (ev_tmp rfl)) ?_
  refine ch_plain rfl rfl (w_nilB rfl (ev_tmp rfl)) ?_
  refine ch_plain rfl rfl (w_fldBn 0 rfl Tryz.underlying45 rfl Tryz.sizeOf22 (ev_tmp rfl) rfl) ?_
  refine ch_plain rfl rfl (w_loadB1 0 rfl (ev_tmp rfl) rfl Tryz.isAgg22 rfl) ?_
  refine ch_plain rfl rfl (w_llen rfl Tryz.underlying22 (ev_tmp rfl)) ?_
  refine ch_plain rfl rfl (w_lss rfl (ev_tmp rfl) (ev_tmp rfl)) ?_
  refine ch_nil ?_
  refine awp_cond (ev_tmp rfl) ?_ ?_
  · intro h13
    have k13 := of_decide_eq_true h13; try simp only [List.length_map] at k13
    obtain ⟨z, hz⟩ := get_some (show c.p < code.length by omega)
    have hzb := hcb z (List.mem_of_getElem? hz)
    refine awp_region_any (by kernel_rfl) (by kernel_rfl) rfl ?_
    refine ch_plain rfl rfl (w_move rfl (ev_tmp rfl)) ?_
    refine ch_plain rfl rfl (w_nilB rfl (ev_tmp rfl)) ?_
    refine ch_plain rfl rfl (w_fldBn 0 rfl Tryz.underlying45 rfl Tryz.sizeOf22 (ev_tmp rfl) rfl) ?_
    refine ch_plain rfl rfl (w_loadB1 0 rfl (ev_tmp rfl) rfl Tryz.isAgg22 rfl) ?_
    refine ch_plain rfl rfl (w_move rfl (ev_tmp rfl)) ?_
    refine ch_plain rfl rfl (w_nilB rfl (ev_tmp rfl)) ?_
    refine ch_plain rfl rfl (w_fldBn 1 rfl Tryz.underlying45 rfl Tryz.sizeOf3 (ev_tmp rfl) rfl) ?_
    refine ch_plain rfl rfl (w_loadB1 0 rfl (ev_tmp rfl) rfl Tryz.isAgg3 rfl) ?_
    refine ch_plain rfl rfl (w_idxm rfl Tryz.underlying22 Tryz.sizeOf5 (ev_tmp rfl) (ev_tmp rfl) hz rfl) ?_
    refine ch_plain rfl rfl (w_loadE1 rfl (ev_tmp rfl) Tryz.isAgg5 rfl) ?_
    refine ch_plain rfl rfl (w_conv rfl (by kernel_rfl) Tryz.underlying3 (ev_tmp rfl)) ?_
    try rw [wrapS hzb]
    refine ch_plain rfl rfl (w_assign rfl (ev_tmp rfl)) ?_
    refine ch_nil ?_
    refine awp_seq ?_
    refine awp_region ?_
    refine sq_plain rfl rfl rfl (w_move rfl (ev_tmp rfl)) ?_
    refine sq_plain rfl rfl rfl (w_nilB rfl (ev_tmp rfl)) ?_
    refine sq_plain rfl rfl rfl (w_fldBn 1 rfl Tryz.underlying45 rfl Tryz.sizeOf3 (ev_tmp rfl) rfl) ?_
    refine sq_plain rfl rfl rfl (w_loadB1 0 rfl (ev_tmp rfl) rfl Tryz.isAgg3 rfl) ?_
    refine sq_plain rfl rfl rfl (w_addi rfl (ev_tmp rfl) ev_ci (by first | omega | ((try simp only [List.length_map, List.length_take, List.length_cons, List.length_nil, chunks_len, szR] at *); omega) | (have hc2 := hc; simp only [Bool.and_eq_true, Bool.or_eq_true, Bool.or_eq_false_iff, Bool.and_eq_false_iff, Bool.not_eq_true', Bool.not_eq_false', decide_eq_true_eq, decide_eq_false_iff_not, beq_iff_eq, bne_iff_ne, List.length_map, List.length_take] at hc2; omega))) ?_
    refine sq_plain rfl rfl rfl (w_nilB rfl (ev_tmp rfl)) ?_
    refine sq_plain rfl rfl rfl (w_fldBn 1 rfl Tryz.underlying45 rfl Tryz.sizeOf3 (ev_tmp rfl) rfl) ?_
    refine sq_storeB1 0 rfl rfl rfl (ev_tmp rfl) (ev_tmp rfl) (as_ik _ _) rfl Tryz.sizeOf3 rfl ?_
    refine sq_nil ?_
    refine awp_seq ?_
    refine awp_region ?_
    refine sq_plain rfl rfl rfl (w_move rfl (ev_tmp rfl)) ?_
    refine sq_plain rfl rfl rfl (w_move rfl (ev_tmp rfl)) ?_
    refine sq_plain rfl rfl rfl (w_nilB rfl (ev_tmp rfl)) ?_
    refine sq_plain rfl rfl rfl (w_fldBn 2 rfl Tryz.underlying45 rfl Tryz.sizeOf43 (ev_tmp rfl) rfl) ?_
    refine sq_plain rfl rfl rfl (w_loadB1 0 rfl (ev_tmp rfl) rfl Tryz.isAgg43 rfl) ?_
    refine sq_plain rfl rfl rfl (w_mul rfl (ev_tmp rfl) ev_ci) ?_
    refine sq_plain rfl rfl rfl (w_move rfl (ev_tmp rfl)) ?_
    refine sq_plain rfl rfl rfl (w_conv rfl (by kernel_rfl) Tryz.underlying43 (ev_tmp rfl)) ?_
    refine sq_plain rfl rfl rfl (w_add rfl (ev_tmp rfl) (ev_tmp rfl)) ?_
    refine sq_plain rfl rfl rfl (w_add rfl (ev_tmp rfl) ev_ci) ?_
    refine sq_plain rfl rfl rfl (w_nilB rfl (ev_tmp rfl)) ?_
    refine sq_plain rfl rfl rfl (w_fldBn 2 rfl Tryz.underlying45 rfl Tryz.sizeOf43 (ev_tmp rfl) rfl) ?_
    refine sq_storeB1 0 rfl rfl rfl (ev_tmp rfl) (ev_tmp rfl) (as_ik _ _) rfl Tryz.sizeOf43 rfl ?_
    refine sq_nil ?_
    refine awp_seq ?_
    refine awp_seq ?_
    refine awp_region_any (by kernel_rfl) (by kernel_rfl) rfl ?_
    refine ch_plain rfl rfl (w_move rfl (ev_tmp rfl)) ?_
    refine ch_plain rfl rfl (w_nilB rfl (ev_tmp rfl)) ?_
    refine ch_plain rfl rfl (w_fldBn 1 rfl Tryz.underlying45 rfl Tryz.sizeOf3 (ev_tmp rfl) rfl) ?_
    refine ch_plain rfl rfl (w_loadB1 0 rfl (ev_tmp rfl) rfl Tryz.isAgg3 rfl) ?_
    refine ch_plain rfl rfl (w_move rfl (ev_tmp rfl)) ?_
    refine ch_plain rfl rfl (w_nilB rfl (ev_tmp rfl)) ?_
    refine ch_plain rfl rfl (w_fldBn 0 rfl Tryz.underlying45 rfl Tryz.sizeOf22 (ev_tmp rfl) rfl) ?_
    refine ch_plain rfl rfl (w_loadB1 0 rfl (ev_tmp rfl) rfl Tryz.isAgg22 rfl) ?_
    refine ch_plain rfl rfl (w_llen rfl Tryz.underlying22 (ev_tmp rfl)) ?_
    refine ch_plain rfl rfl (w_leq rfl (ev_tmp rfl) (ev_tmp rfl)) ?_
    refine ch_nil ?_
    refine awp_cond (ev_tmp rfl) ?_ ?_
    · intro h53
      have k53 := of_decide_eq_true h53; try simp only [List.length_map] at k53
      refine awp_seq ?_
      refine awp_region ?_
      refine sq_plain rfl rfl rfl (w_move rfl (ev_tmp rfl)) ?_
      refine sq_plain rfl rfl rfl (w_assign rfl (ev_tmp rfl)) ?_
      refine sq_nil ?_
      refine awp_ret ?_
      (refine retG [0] ((⟨c.p + 1, _⟩, _)) ?_ rfl (by first | (dsimp only; rfl) | rfl) (resR rfl (rv_tmp' rfl (by first | rfl | (refine congrArg AV.bool ?_; simp_all; done)))); first | exact ⟨Nat.le_refl _, hzb⟩ | exact ⟨Nat.le_refl _, Int.le_refl 0, (show (0 : Int) ≤ 255 by decide)⟩ | (rw [wrapS (bandI_255 _)]; exact ⟨Nat.le_refl _, bandI_255 _⟩))
    · intro h53
      have k53 := of_decide_eq_false h53; try simp only [List.length_map] at k53
      refine awp_skip ?_
      refine awp_seq ?_
      refine awp_region ?_
      refine sq_plain rfl rfl rfl (w_move rfl (ev_tmp rfl)) ?_
      refine sq_plain rfl rfl rfl (w_nilB rfl (ev_tmp rfl)) ?_
      refine sq_plain rfl rfl rfl (w_fldBn 2 rfl Tryz.underlying45 rfl Tryz.sizeOf43 (ev_tmp rfl) rfl) ?_
      refine sq_plain rfl rfl rfl (w_loadB1 0 rfl (ev_tmp rfl) rfl Tryz.isAgg43 rfl) ?_
      refine sq_plain rfl rfl rfl (w_shr rfl (ev_tmp rfl) ev_ci (by decide) (by decide)) ?_
      refine sq_plain rfl rfl rfl (w_band rfl (ev_tmp rfl) ev_ci) ?_
      refine sq_plain rfl rfl rfl (w_conv rfl (by kernel_rfl) Tryz.underlying3 (ev_tmp rfl)) ?_
      refine sq_plain rfl rfl rfl (w_assign rfl (ev_tmp rfl)) ?_
      refine sq_nil ?_
      refine awp_ret ?_
      (refine retG [0] ((⟨c.p + 1, _⟩, _)) ?_ rfl (by first | (dsimp only; rfl) | rfl) (resR rfl (rv_tmp' rfl (by first | rfl | (refine congrArg AV.bool ?_; simp_all; done)))); first | exact ⟨Nat.le_refl _, hzb⟩ | exact ⟨Nat.le_refl _, Int.le_refl 0, (show (0 : Int) ≤ 255 by decide)⟩ | (rw [wrapS (bandI_255 _)]; exact ⟨Nat.le_refl _, bandI_255 _⟩))
  · intro h13
    have k13 := of_decide_eq_false h13; try simp only [List.length_map] at k13
    refine awp_skip ?_
    refine awp_seq ?_
    refine awp_region ?_
    refine sq_plain rfl rfl rfl (w_move rfl (ev_tmp rfl)) ?_
    refine sq_plain rfl rfl rfl (w_nilB rfl (ev_tmp rfl)) ?_
    refine sq_plain rfl rfl rfl (w_fldBn 1 rfl Tryz.underlying45 rfl Tryz.sizeOf3 (ev_tmp rfl) rfl) ?_
    refine sq_plain rfl rfl rfl (w_loadB1 0 rfl (ev_tmp rfl) rfl Tryz.isAgg3 rfl) ?_
    refine sq_plain rfl rfl rfl (w_addi rfl (ev_tmp rfl) ev_ci (by first | omega | ((try simp only [List.length_map, List.length_take, List.length_cons, List.length_nil, chunks_len, szR] at *); omega) | (have hc2 := hc; simp only [Bool.and_eq_true, Bool.or_eq_true, Bool.or_eq_false_iff, Bool.and_eq_false_iff, Bool.not_eq_true', Bool.not_eq_false', decide_eq_true_eq, decide_eq_false_iff_not, beq_iff_eq, bne_iff_ne, List.length_map, List.length_take] at hc2; omega))) ?_
    refine sq_plain rfl rfl rfl (w_nilB rfl (ev_tmp rfl)) ?_
    refine sq_plain rfl rfl rfl (w_fldBn 1 rfl Tryz.underlying45 rfl Tryz.sizeOf3 (ev_tmp rfl) rfl) ?_
    refine sq_storeB1 0 rfl rfl rfl (ev_tmp rfl) (ev_tmp rfl) (as_ik _ _) rfl Tryz.sizeOf3 rfl ?_
    refine sq_nil ?_
    refine awp_seq ?_
    refine awp_region ?_
    refine sq_plain rfl rfl rfl (w_move rfl (ev_tmp rfl)) ?_
    refine sq_plain rfl rfl rfl (w_move rfl (ev_tmp rfl)) ?_
    refine sq_plain rfl rfl rfl (w_nilB rfl (ev_tmp rfl)) ?_
    refine sq_plain rfl rfl rfl (w_fldBn 2 rfl Tryz.underlying45 rfl Tryz.sizeOf43 (ev_tmp rfl) rfl) ?_
    refine sq_plain rfl rfl rfl (w_loadB1 0 rfl (ev_tmp rfl) rfl Tryz.isAgg43 rfl) ?_
    refine sq_plain rfl rfl rfl (w_mul rfl (ev_tmp rfl) ev_ci) ?_
    refine sq_plain rfl rfl rfl (w_move rfl (ev_tmp rfl)) ?_
    refine sq_plain rfl rfl rfl (w_conv rfl (by kernel_rfl) Tryz.underlying43 (ev_tmp rfl)) ?_
    refine sq_plain rfl rfl rfl (w_add rfl (ev_tmp rfl) (ev_tmp rfl)) ?_
    refine sq_plain rfl rfl rfl (w_add rfl (ev_tmp rfl) ev_ci) ?_
    refine sq_plain rfl rfl rfl (w_nilB rfl (ev_tmp rfl)) ?_
    refine sq_plain rfl rfl rfl (w_fldBn 2 rfl Tryz.underlying45 rfl Tryz.sizeOf43 (ev_tmp rfl) rfl) ?_
    refine sq_storeB1 0 rfl rfl rfl (ev_tmp rfl) (ev_tmp rfl) (as_ik _ _) rfl Tryz.sizeOf43 rfl ?_
    refine sq_nil ?_
    refine awp_seq ?_
    refine awp_seq ?_
    refine awp_region_any (by kernel_rfl) (by kernel_rfl) rfl ?_
    refine ch_plain rfl rfl (w_move rfl (ev_tmp rfl)) ?_
    refine ch_plain rfl rfl (w_nilB rfl (ev_tmp rfl)) ?_
    refine ch_plain rfl rfl (w_fldBn 1 rfl Tryz.underlying45 rfl Tryz.sizeOf3 (ev_tmp rfl) rfl) ?_
    refine ch_plain rfl rfl (w_loadB1 0 rfl (ev_tmp rfl) rfl Tryz.isAgg3 rfl) ?_
    refine ch_plain rfl rfl (w_move rfl (ev_tmp rfl)) ?_
    refine ch_plain rfl rfl (w_nilB rfl (ev_tmp rfl)) ?_
    refine ch_plain rfl rfl (w_fldBn 0 rfl Tryz.underlying45 rfl Tryz.sizeOf22 (ev_tmp rfl) rfl) ?_
    refine ch_plain rfl rfl (w_loadB1 0 rfl (ev_tmp rfl) rfl Tryz.isAgg22 rfl) ?_
    refine ch_plain rfl rfl (w_llen rfl Tryz.underlying22 (ev_tmp rfl)) ?_
    refine ch_plain rfl rfl (w_leq rfl (ev_tmp rfl) (ev_tmp rfl)) ?_
    refine ch_nil ?_
    refine awp_cond (ev_tmp rfl) ?_ ?_
    · intro h53
      have k53 := of_decide_eq_true h53; try simp only [List.length_map] at k53
      refine awp_seq ?_
      refine awp_region ?_
      refine sq_plain rfl rfl rfl (w_move rfl (ev_tmp rfl)) ?_
      refine sq_plain rfl rfl rfl (w_assign rfl (ev_tmp rfl)) ?_
      refine sq_nil ?_
      refine awp_ret ?_
      (refine retG [0] ((⟨c.p + 1, _⟩, _)) ?_ rfl (by first | (dsimp only; rfl) | rfl) (resR rfl (rv_tmp' rfl (by first | rfl | (refine congrArg AV.bool ?_; simp_all; done)))); first | exact ⟨Nat.le_refl _, hzb⟩ | exact ⟨Nat.le_refl _, Int.le_refl 0, (show (0 : Int) ≤ 255 by decide)⟩ | (rw [wrapS (bandI_255 _)]; exact ⟨Nat.le_refl _, bandI_255 _⟩))
    · intro h53
      have k53 := of_decide_eq_false h53; try simp only [List.length_map] at k53
      refine awp_skip ?_
      refine awp_seq ?_
      refine awp_region ?_
      refine sq_plain rfl rfl rfl (w_move rfl (ev_tmp rfl)) ?_
      refine sq_plain rfl rfl rfl (w_nilB rfl (ev_tmp rfl)) ?_
      refine sq_plain rfl rfl rfl (w_fldBn 2 rfl Tryz.underlying45 rfl Tryz.sizeOf43 (ev_tmp rfl) rfl) ?_
      refine sq_plain rfl rfl rfl (w_loadB1 0 rfl (ev_tmp rfl) rfl Tryz.isAgg43 rfl) ?_
      refine sq_plain rfl rfl rfl (w_shr rfl (ev_tmp rfl) ev_ci (by decide) (by decide)) ?_
      refine sq_plain rfl rfl rfl (w_band rfl (ev_tmp rfl) ev_ci) ?_
      refine sq_plain rfl rfl rfl (w_conv rfl (by kernel_rfl) Tryz.underlying3 (ev_tmp rfl)) ?_
      refine sq_plain rfl rfl rfl (w_assign rfl (ev_tmp rfl)) ?_
      refine sq_nil ?_
      refine awp_ret ?_
      (refine retG [0] ((⟨c.p + 1, _⟩, _)) ?_ rfl (by first | (dsimp only; rfl) | rfl) (resR rfl (rv_tmp' rfl (by first | rfl | (refine congrArg AV.bool ?_; simp_all; done)))); first | exact ⟨Nat.le_refl _, hzb⟩ | exact ⟨Nat.le_refl _, Int.le_refl 0, (show (0 : Int) ≤ 255 by decide)⟩ | (rw [wrapS (bandI_255 _)]; exact ⟨Nat.le_refl _, bandI_255 _⟩))
theorem curPick_own (b : Nat) (code : List Int) (hcode : ByteL code) (c : TCur) (n : Int) (hn : n ≤ 1000000) (hp : c.p ≤ 7000000) : GSpec Tryz.prog 30 [AV.ptr b 0, AV.int n] [.box b 45 (curC code c)] (fun x : TCur × Int => x.1.p ≤ c.p + 2 ∧ 0 ≤ x.2 ∧ (x.2 < n ∨ x.2 = 0)) (fun x => [.box b 45 (curC code x.1)]) (fun x => AV.int x.2) := by
  refine gspec_of_awp Tryz.func30 rfl Tryz.ntmps30 rfl ?_
  refine awp_seq ?_
  refine awp_region ?_
  refine sq_plain rfl rfl rfl (w_assign rfl ev_ci) ?_
  refine sq_nil ?_
  refine awp_seq ?_
  refine awp_seq ?_
  refine awp_region ?_
  refine sq_plain rfl rfl rfl (w_move rfl (ev_tmp rfl)) ?_
  refine sq_plain rfl rfl rfl (w_leq rfl (ev_tmp rfl) ev_ci) ?_
  refine sq_nil ?_
  refine awp_cond (ev_tmp rfl) ?_ ?_
  · intro h7
    have k7 := of_decide_eq_true h7; try simp only [List.length_map] at k7
    refine awp_seq ?_
    refine awp_region ?_
    refine sq_plain rfl rfl rfl (w_assign rfl ev_ci) ?_
    refine sq_nil ?_
    refine awp_ret ?_
    (refine retG [0] ((_, _)) ?_ rfl (by first | (dsimp only; rfl) | rfl) (resR rfl (rv_tmp' rfl (by first | rfl | (refine congrArg AV.bool ?_; simp_all; done)))); (dsimp only; first | omega | exact ⟨by omega, Int.tmod_nonneg _ (by omega), .inl (Int.tmod_lt_of_pos _ (by omega))⟩))
  · intro h7
    have k7 := of_decide_eq_false h7; try simp only [List.length_map] at k7
    refine awp_skip ?_
    refine awp_seq ?_
    refine awp_region ?_
    refine sq_plain rfl rfl rfl (w_move rfl (ev_tmp rfl)) ?_
    refine sq_callG [0] rfl rfl rfl rfl Tryz.call51 rfl (curNext_own _ _ hcode _ (by omega)) (evl_cons (ev_tmp rfl) evl_nil) rfl ?_
    intro x9 ok9
    refine sq_plain rfl rfl rfl (w_assign rfl (ev_tmp rfl)) ?_
    refine sq_nil ?_
    refine awp_seq ?_
    refine awp_seq ?_
    refine awp_region ?_
    refine sq_plain rfl rfl rfl (w_move rfl (ev_tmp rfl)) ?_
    refine sq_plain rfl rfl rfl (w_gtr rfl (ev_tmp rfl) ev_ci) ?_
    refine sq_nil ?_
    refine awp_cond (ev_tmp rfl) ?_ ?_
    · intro h11
      have k11 := of_decide_eq_true h11; try simp only [List.length_map] at k11
      refine awp_region ?_
      refine sq_plain rfl rfl rfl (w_move rfl (ev_tmp rfl)) ?_
      refine sq_plain rfl rfl rfl (w_muli rfl (ev_tmp rfl) ev_ci (by first | omega | ((try simp only [List.length_map, List.length_take, List.length_cons, List.length_nil, chunks_len, szR] at *); omega) | (have hc2 := hc; simp only [Bool.and_eq_true, Bool.or_eq_true, Bool.or_eq_false_iff, Bool.and_eq_false_iff, Bool.not_eq_true', Bool.not_eq_false', decide_eq_true_eq, decide_eq_false_iff_not, beq_iff_eq, bne_iff_ne, List.length_map, List.length_take] at hc2; omega))) ?_
      refine sq_plain rfl rfl rfl (w_move rfl (ev_tmp rfl)) ?_
      refine sq_callG [0] rfl rfl rfl rfl Tryz.call51 rfl (curNext_own _ _ hcode _ (by omega)) (evl_cons (ev_tmp rfl) evl_nil) rfl ?_
      intro x15 ok15
      refine sq_plain rfl rfl rfl (w_addi rfl (ev_tmp rfl) (ev_tmp rfl) (by first | omega | ((try simp only [List.length_map, List.length_take, List.length_cons, List.length_nil, chunks_len, szR] at *); omega) | (have hc2 := hc; simp only [Bool.and_eq_true, Bool.or_eq_true, Bool.or_eq_false_iff, Bool.and_eq_false_iff, Bool.not_eq_true', Bool.not_eq_false', decide_eq_true_eq, decide_eq_false_iff_not, beq_iff_eq, bne_iff_ne, List.length_map, List.length_take] at hc2; omega))) ?_
      refine sq_plain rfl rfl rfl (w_assign rfl (ev_tmp rfl)) ?_
      refine sq_nil ?_
      refine awp_seq ?_
      refine awp_region ?_
      refine sq_plain rfl rfl rfl (w_move rfl (ev_tmp rfl)) ?_
      refine sq_plain rfl rfl rfl (w_move rfl (ev_tmp rfl)) ?_
      refine sq_plain rfl rfl rfl (w_rem rfl (ev_tmp rfl) (ev_tmp rfl) (by omega)) ?_
      refine sq_plain rfl rfl rfl (w_assign rfl (ev_tmp rfl)) ?_
      refine sq_nil ?_
      refine awp_ret ?_
      (refine retG [0] ((_, _)) ?_ rfl (by first | (dsimp only; rfl) | rfl) (resR rfl (rv_tmp' rfl (by first | rfl | (refine congrArg AV.bool ?_; simp_all; done)))); (dsimp only; first | omega | exact ⟨by omega, Int.tmod_nonneg _ (by omega), .inl (Int.tmod_lt_of_pos _ (by omega))⟩))
    · intro h11
      have k11 := of_decide_eq_false h11; try simp only [List.length_map] at k11
      refine awp_skip ?_
      refine awp_seq ?_
      refine awp_region ?_
      refine sq_plain rfl rfl rfl (w_move rfl (ev_tmp rfl)) ?_
      refine sq_plain rfl rfl rfl (w_move rfl (ev_tmp rfl)) ?_
      refine sq_plain rfl rfl rfl (w_rem rfl (ev_tmp rfl) (ev_tmp rfl) (by omega)) ?_
      refine sq_plain rfl rfl rfl (w_assign rfl (ev_tmp rfl)) ?_
      refine sq_nil ?_
      refine awp_ret ?_
      (refine retG [0] ((_, _)) ?_ rfl (by first | (dsimp only; rfl) | rfl) (resR rfl (rv_tmp' rfl (by first | rfl | (refine congrArg AV.bool ?_; simp_all; done)))); (dsimp only; first | omega | exact ⟨by omega, Int.tmod_nonneg _ (by omega), .inl (Int.tmod_lt_of_pos _ (by omega))⟩))
theorem curOne_own (b : Nat) (code : List Int) (hcode : ByteL code) (c : TCur) (n : Int) (hn : n ≤ 1000000) (hp : c.p ≤ 7000000) : GSpec Tryz.prog 34 [AV.ptr b 0, AV.int n] [.box b 45 (curC code c)] (fun x : TCur × Bool => x.1.p ≤ c.p + 2) (fun x => [.box b 45 (curC code x.1)]) (fun x => AV.bool x.2) := by
  refine gspec_of_awp Tryz.func34 rfl Tryz.ntmps34 rfl ?_
  refine awp_seq ?_
  refine awp_region ?_
  refine sq_plain rfl rfl rfl (w_assign rfl ev_cb) ?_
  refine sq_nil ?_
  refine awp_seq ?_
  refine awp_region ?_
  refine sq_plain rfl rfl rfl (w_move rfl (ev_tmp rfl)) ?_
  refine sq_plain rfl rfl rfl (w_move rfl (ev_tmp rfl)) ?_
  refine sq_callG [0] rfl rfl rfl rfl Tryz.call30 rfl (curPick_own _ _ hcode _ _ (by omega) (by omega)) (evl_cons (ev_tmp rfl) (evl_cons (ev_tmp rfl) evl_nil)) rfl ?_
  intro x7 ok7
  refine sq_plain rfl rfl rfl (w_eql rfl (ev_tmp rfl) ev_ci) ?_
  refine sq_plain rfl rfl rfl (w_assign rfl (ev_tmp rfl)) ?_
  refine sq_nil ?_
  refine awp_ret ?_
  (refine retG [0] ((_, _)) ?_ rfl (by first | (dsimp only; rfl) | rfl) (resR rfl (rv_tmp' rfl (by rfl))); exact ok7.1)
theorem curOf_own (b : Nat) (code : List Int) (hcode : ByteL code) (c : TCur) (l : List Str) (hl : (∀ s ∈ l, s.length ≤ 64) ∧ 1 ≤ l.length ∧ l.length ≤ 1000) (hp : c.p ≤ 7000000) : GSpec Tryz.prog 16 [AV.ptr b 0, strs l] [.box b 45 (curC code c)] (fun x : TCur × Str => x.1.p ≤ c.p + 2 ∧ x.2.length ≤ 64) (fun x => [.box b 45 (curC code x.1)]) (fun x => AV.str x.2) := by
  obtain ⟨hls, hl1, hl2⟩ := hl
  refine gspec_of_awp Tryz.func16 rfl Tryz.ntmps16 rfl ?_
  refine awp_seq ?_
  refine awp_region ?_
  refine sq_plain rfl rfl rfl (w_assign rfl (ev_cs' (l := []) rfl)) ?_
  refine sq_nil ?_
  refine awp_seq ?_
  refine awp_region ?_
  refine sq_plain rfl rfl rfl (w_move rfl (ev_tmp rfl)) ?_
  refine sq_plain rfl rfl rfl (w_move rfl (ev_tmp rfl)) ?_
  refine sq_plain rfl rfl rfl (w_move rfl (ev_tmp rfl)) ?_
  refine sq_plain rfl rfl rfl (w_llen rfl Tryz.underlying23 (ev_tmp rfl)) ?_
  refine sq_callG [0] rfl rfl rfl rfl Tryz.call30 rfl (curPick_own _ _ hcode _ _ (by simp only [List.length_map]; omega) (by omega)) (evl_cons (ev_tmp rfl) (evl_cons (ev_tmp rfl) evl_nil)) rfl ?_
  intro x9 ok9
  simp only [List.length_map] at ok9
  obtain ⟨y, hy⟩ := get_some (show x9.2.toNat < l.length by omega)
  refine sq_plain rfl rfl rfl (w_idxm rfl Tryz.underlying23 Tryz.sizeOf9 (ev_tmp rfl) (ev_tmp rfl) hy (by omega)) ?_
  refine sq_plain rfl rfl rfl (w_loadE1 rfl (ev_tmp rfl) Tryz.isAgg9 rfl) ?_
  refine sq_plain rfl rfl rfl (w_assign rfl (ev_tmp rfl)) ?_
  refine sq_nil ?_
  refine awp_ret ?_
  (refine retG [0] ((_, _)) ?_ rfl (by first | (dsimp only; rfl) | rfl) (resR rfl (rv_tmp' rfl (by rfl))); exact ⟨ok9.1, hls _ (List.mem_of_getElem? hy)⟩)
theorem curAmong_own (b : Nat) (code : List Int) (hcode : ByteL code) (c : TCur) (l : List Int) (hl : 1 ≤ l.length ∧ l.length ≤ 1000) (hp : c.p ≤ 7000000) : GSpec Tryz.prog 38 [AV.ptr b 0, ints l] [.box b 45 (curC code c)] (fun x : TCur × Int => x.1.p ≤ c.p + 2 ∧ x.2 ∈ l) (fun x => [.box b 45 (curC code x.1)]) (fun x => AV.int x.2) := by
  obtain ⟨hl1, hl2⟩ := hl
  refine gspec_of_awp Tryz.func38 rfl Tryz.ntmps38 rfl ?_
  refine awp_seq ?_
  refine awp_region ?_
  refine sq_plain rfl rfl rfl (w_assign rfl ev_ci) ?_
  refine sq_nil ?_
  refine awp_seq ?_
  refine awp_region ?_
  refine sq_plain rfl rfl rfl (w_move rfl (ev_tmp rfl)) ?_
  refine sq_plain rfl rfl rfl (w_move rfl (ev_tmp rfl)) ?_
  refine sq_plain rfl rfl rfl (w_move rfl (ev_tmp rfl)) ?_
  refine sq_plain rfl rfl rfl (w_llen rfl Tryz.underlying24 (ev_tmp rfl)) ?_
  refine sq_callG [0] rfl rfl rfl rfl Tryz.call30 rfl (curPick_own _ _ hcode _ _ (by simp only [List.length_map]; omega) (by omega)) (evl_cons (ev_tmp rfl) (evl_cons (ev_tmp rfl) evl_nil)) rfl ?_
  intro x9 ok9
  simp only [List.length_map] at ok9
  obtain ⟨y, hy⟩ := get_some (show x9.2.toNat < l.length by omega)
  refine sq_plain rfl rfl rfl (w_idxm rfl Tryz.underlying24 Tryz.sizeOf3 (ev_tmp rfl) (ev_tmp rfl) hy (by omega)) ?_
  refine sq_plain rfl rfl rfl (w_loadE1 rfl (ev_tmp rfl) Tryz.isAgg3 rfl) ?_
  refine sq_plain rfl rfl rfl (w_assign rfl (ev_tmp rfl)) ?_
  refine sq_nil ?_
  refine awp_ret ?_
  (refine retG [0] ((_, _)) ?_ rfl (by first | (dsimp only; rfl) | rfl) (resR rfl (rv_tmp' rfl (by rfl))); exact ⟨ok9.1, List.mem_of_getElem? hy⟩)
theorem curKey_own (b : Nat) (code : List Int) (hcode : ByteL code) (c : TCur) (hp : c.p ≤ 6000000) : GSpec Tryz.prog 54 [AV.ptr b 0] [.box b 45 (curC code c)] (fun x : TCur × Str => x.1.p ≤ c.p + 2 ∧ x.2.length ≤ 64) (fun x => [.box b 45 (curC code x.1)]) (fun x => AV.str x.2) := by
  refine gspec_of_awp Tryz.func54 rfl Tryz.ntmps54 rfl ?_
  refine awp_seq ?_
  refine awp_region ?_
  refine sq_plain rfl rfl rfl (w_assign rfl (ev_cs' (l := []) rfl)) ?_
  refine sq_nil ?_
  refine awp_seq ?_
  refine awp_region ?_
  refine sq_plain rfl rfl rfl (w_move rfl (ev_tmp rfl)) ?_
  refine sq_plain rfl rfl rfl (w_bslice rfl Tryz.underlying23 Tryz.sizeOf9 Tryz.zeroValue9 rfl rfl rfl rfl (bp_cons (ev_cs' (l := [97]) rfl) (as_str _) (bp_cons (ev_cs' (l := [98]) rfl) (as_str _) (bp_cons (ev_cs' (l := [99]) rfl) (as_str _) (bp_cons (ev_cs' (l := [109]) rfl) (as_str _) (bp_cons (ev_cs' (l := [110]) rfl) (as_str _) (bp_cons (ev_cs' (l := [122]) rfl) (as_str _) (bp_cons (ev_cs' (l := [114, 47, 49]) rfl) (as_str _) (bp_cons (ev_cs' (l := [105, 47, 120, 47, 49]) rfl) (as_str _) bp_nil)))))))) rfl rfl) ?_
  refine sq_callG [0] rfl rfl rfl rfl Tryz.call16 rfl (curOf_own _ _ hcode _ ([[97], [98], [99], [109], [110], [122], [114, 47, 49], [105, 47, 120, 47, 49]] : List Str) (by decide) (by omega)) (evl_cons (ev_tmp rfl) (evl_cons (ev_tmp rfl) evl_nil)) rfl ?_
  intro x5 ok5
  refine sq_plain rfl rfl rfl (w_assign rfl (ev_tmp rfl)) ?_
  refine sq_nil ?_
  refine awp_ret ?_
  (refine retG [0] ((_, _)) ?_ rfl (by first | (dsimp only; rfl) | rfl) (resR rfl (rv_tmp' rfl (by rfl))); exact ok5)
end Go.Proofs.YtdgoejkijpllpaaGreatDoor

set_option linter.unusedVariables false
set_option linter.unusedSimpArgs false
namespace Go.M
def chg : List Int → List Int → List Int
  | g :: a, h :: b => if (g != h) = true then g :: h :: chg a b else chg a b
  | _, _ => []
def gv : List Int → List Int → Nat → Int → Int
  | g :: a, h :: b, i, at' => gv a b (i + 1) (if (g != h) = true then (i : Int) else at')
  | _, _, _, at' => at'
theorem chg_snoc {x y : Int} : ∀ {a b : List Int} {i : Nat}, a[i]? = some x → b[i]? = some y → chg (a.take (i + 1)) (b.take (i + 1)) = chg (a.take i) (b.take i) ++ (if (x != y) = true then [x, y] else [])
  | [], _, i, h, _ => by simp at h
  | _ :: _, [], i, _, h => by simp at h
  | g :: a, h :: b, 0, hx, hy => by
    simp at hx hy; subst hx; subst hy
    simp only [List.take_succ_cons, List.take_zero]
    unfold chg chg
    by_cases hc : (g != h) = true <;> simp [hc]
  | g :: a, h :: b, i + 1, hx, hy => by
    have ih := chg_snoc (a := a) (b := b) (i := i) (by simpa using hx) (by simpa using hy)
    simp only [List.take_succ_cons]
    rw [chg, ih]
    conv => rhs; rw [chg]
    by_cases hc : (g != h) = true
    · rw [if_pos hc, if_pos hc]; simp
    · rw [if_neg hc, if_neg hc]
theorem chg_keep {x y : Int} {a b : List Int} {i : Nat} {β : Type} {f : Int → β} (hx : a[i]? = some x) (hy : b[i]? = some y) (h : (x != y) = true) : (chg (a.take i) (b.take i)).map f ++ [f x, f y] = (chg (a.take (i + 1)) (b.take (i + 1))).map f := by
  rw [chg_snoc hx hy, if_pos h]; simp
theorem chg_skip {x y : Int} {a b : List Int} {i : Nat} {β : Type} {f : Int → β} (hx : a[i]? = some x) (hy : b[i]? = some y) (h : (x != y) = false) : (chg (a.take i) (b.take i)).map f = (chg (a.take (i + 1)) (b.take (i + 1))).map f := by
  rw [chg_snoc hx hy, if_neg (by rw [h]; decide)]; simp
theorem chg_len : ∀ (a b : List Int), (chg a b).length ≤ 2 * a.length
  | g :: a, h :: b => by
    have := chg_len a b
    unfold chg
    split <;> simp only [List.length_cons] <;> omega
  | [], _ => by simp [chg]
  | _ :: _, [] => by simp [chg]
theorem chg_same : ∀ (a : List Int), chg a a = []
  | [] => rfl
  | g :: a => by unfold chg; simp [chg_same a]
theorem gv_same : ∀ (a : List Int) (i : Nat) (t : Int), gv a a i t = t
  | [], _, _ => rfl
  | g :: a, i, t => by unfold gv; simp [gv_same a]
theorem chg_set {k x : Int} : ∀ {a : List Int} {i : Nat}, a[i]? = some x → (x == k) = false → chg a (a.set i k) = [x, k]
  | [], i, h, _ => by simp at h
  | g :: a, 0, h, hk => by
    simp at h; subst h
    simp only [List.set_cons_zero]
    unfold chg
    rw [if_pos (by rw [bne, hk]; rfl), chg_same]
  | g :: a, i + 1, h, hk => by
    simp only [List.set_cons_succ]
    unfold chg
    rw [if_neg (by simp), chg_set (by simpa using h) hk]
theorem gv_set {k x : Int} : ∀ {a : List Int} {i : Nat} {j : Nat} {t : Int}, a[i]? = some x → (x == k) = false → gv a (a.set i k) j t = ((j + i : Nat) : Int)
  | [], i, _, _, h, _ => by simp at h
  | g :: a, 0, j, t, h, hk => by
    simp at h; subst h
    simp only [List.set_cons_zero]
    unfold gv
    rw [if_pos (by rw [bne, hk]; rfl), gv_same]; rfl
  | g :: a, i + 1, j, t, h, hk => by
    simp only [List.set_cons_succ]
    unfold gv
    rw [if_neg (by simp), gv_set (by simpa using h) hk]
    congr 1; omega
theorem chg_mem {x : Int} : ∀ {a b : List Int}, x ∈ chg a b → x ∈ a ∨ x ∈ b
  | g :: a, h :: b, hx => by
    unfold chg at hx
    by_cases hc : (g != h) = true
    · rw [if_pos hc] at hx
      simp only [List.mem_cons] at hx ⊢
      rcases hx with hx | hx | hx
      · exact .inl (.inl hx)
      · exact .inr (.inl hx)
      · rcases chg_mem hx with h1 | h1
        · exact .inl (.inr h1)
        · exact .inr (.inr h1)
    · rw [if_neg hc] at hx
      rcases chg_mem hx with h1 | h1
      · exact .inl (List.mem_cons_of_mem _ h1)
      · exact .inr (List.mem_cons_of_mem _ h1)
  | [], _, hx => by simp [chg] at hx
  | _ :: _, [], hx => by simp [chg] at hx
theorem gv_step {x y t : Int} {a b : List Int} {i : Nat} (hx : a[i]? = some x) (hy : b[i]? = some y) : gv (a.drop i) (b.drop i) i t = gv (a.drop (i + 1)) (b.drop (i + 1)) (i + 1) (if (x != y) = true then (i : Int) else t) := by
  rw [Go.AV.drop_some hx, Go.AV.drop_some hy, gv]
theorem gv_lt : ∀ {a b : List Int} {j : Nat} {t : Int}, t < j → gv a b j t < ((j + a.length : Nat) : Int)
  | g :: a, h :: b, j, t, ht => by
    unfold gv
    have := gv_lt (a := a) (b := b) (j := j + 1) (t := if (g != h) = true then (j : Int) else t) (by split <;> omega)
    simp only [List.length_cons]
    omega
  | [], _, j, t, ht => by simp only [gv, List.length_nil]; omega
  | _ :: _, [], j, t, ht => by simp only [gv, List.length_cons]; omega
def changed (a b : TPlaces) : List Int := if (!decide (a.Cuts = b.Cuts)) = true then [] else chg a.Groups b.Groups
def gave (a b : TPlaces) : Int := gv a.Groups b.Groups 0 (-1)
def concerned (a b : TPlaces) : List Int := if ((a.Groups.length : Int) != (b.Groups.length : Int)) = true then [] else if decide (gave a b < 0) = true then [] else [gAt a (gave a b), gAt b (gave a b)]
theorem concerned_len (a b : TPlaces) : (concerned a b).length ≤ 2 := by
  unfold concerned
  split
  · simp
  · split <;> simp
theorem good_len {a b : TPlaces} (ha : goodPlaces a = true) (hb : goodPlaces b = true) (h : a.Cuts = b.Cuts) : a.Groups.length = b.Groups.length := by
  have h1 := (good_facts ha).2.2.2.1
  have h2 := (good_facts hb).2.2.2.1
  rw [h1, h2, h]
theorem good_groups {p : TPlaces} (h : goodPlaces p = true) : ∀ g ∈ p.Groups, 0 ≤ g ∧ g < 4 := fun g hg => by
  rw [goodPlaces_eq] at h
  unfold goodPlacesS at h
  simp only [Bool.and_eq_true, List.all_eq_true] at h
  have := h.2.2 g hg
  unfold within at this
  simp only [Bool.and_eq_true, decide_eq_true_eq] at this
  omega
theorem changed_range {a b : TPlaces} (ha : goodPlaces a = true) (hb : goodPlaces b = true) : ∀ g ∈ changed a b, 0 ≤ g ∧ g < 4 := fun g hg => by
  unfold changed at hg
  split at hg
  · simp at hg
  · rcases chg_mem hg with h | h
    · exact good_groups ha g h
    · exact good_groups hb g h
theorem nextP_hit {p b : TPlaces} (h : hit (nextP p) b = true) : b.Cuts = p.Cuts ∧ b.Groups = p.Groups := by
  unfold hit nextP at h
  split at h
  · simp at h
  · unfold samePlaces bump at h
    simp only [Bool.and_eq_true, decide_eq_true_eq, true_and] at h
    exact ⟨h.1.2.symm, h.2.symm⟩
theorem no_hit {b : TPlaces} : hit (noPlaces, false) b = false := rfl
theorem law_len {a b : TPlaces} (ha : goodPlaces a = true) (hb : goodPlaces b = true) (h : a.Cuts.length ≠ b.Cuts.length) : changed a b = concerned a b := by
  have h1 := (good_facts ha).2.2.2.1
  have h2 := (good_facts hb).2.2.2.1
  unfold changed concerned
  rw [if_pos (by have : a.Cuts ≠ b.Cuts := fun e => h (by rw [e]); simp [this]), if_pos (by simp only [bne_iff_ne, ne_eq]; omega)]
theorem law_give {a b : TPlaces} {i : Nat} {k : Int} (h : hit (giveTo a i k) b = true) : changed a b = concerned a b := by
  unfold giveTo at h
  split at h
  · rw [no_hit] at h; cases h
  · rename_i hn
    simp only [Bool.or_eq_true, not_or, Bool.not_eq_true'] at hn
    obtain ⟨hr, hg⟩ := hn
    have hr1 := isRange_facts (show isRange a i = true by revert hr; cases isRange a i <;> simp)
    obtain ⟨hc, hgr⟩ := nextP_hit h
    obtain ⟨x, hx⟩ := Go.AV.get_some (show i < a.Groups.length by omega)
    have hxk : (x == k) = false := by
      have h9 : gAt a i = x := by unfold gAt; rw [Int.toNat_natCast, List.getD_eq_getElem?_getD, hx]; rfl
      rw [h9] at hg
      revert hg; cases x == k <;> simp
    have hgb : b.Groups = a.Groups.set i k := by rw [hgr]; simp [setP]
    have hgv : gave a b = (i : Int) := by unfold gave; rw [hgb, gv_set hx hxk]; congr 1; omega
    unfold changed concerned
    rw [if_neg (by rw [hc]; simp [setP]), if_neg (by rw [hgb]; simp), hgv, if_neg (by simp), hgb, chg_set hx hxk]
    unfold gAt
    rw [hgb, Int.toNat_natCast, List.getD_eq_getElem?_getD, hx, List.getD_eq_getElem?_getD, List.getElem?_set_self (by omega)]
    rfl
theorem anyI_some {α : Type} {f : Nat → α → Bool} : ∀ {l : List α} {k : Nat}, anyI f l k = true → ∃ i x, l[i]? = some x ∧ f (k + i) x = true
  | [], _, h => by simp [anyI] at h
  | x :: l, k, h => by
    unfold anyI at h
    simp only [Bool.or_eq_true] at h
    rcases h with h | h
    · exact ⟨0, x, rfl, h⟩
    · obtain ⟨i, y, h1, h2⟩ := anyI_some h
      exact ⟨i + 1, y, by simpa using h1, by rw [show k + (i + 1) = k + 1 + i by omega]; exact h2⟩
theorem changed_eq {a b : TPlaces} (ha : goodPlaces a = true) (hb : goodPlaces b = true) (h : isNext a b = true) : changed a b = concerned a b := by
  unfold isNext at h
  simp only [Bool.or_eq_true, List.any_eq_true] at h
  rcases h with ⟨k, _, h⟩ | h
  · refine law_len ha hb ?_
    unfold splitAt at h
    split at h
    · rw [no_hit] at h; cases h
    · have hc := (nextP_hit h).1
      have hn := partOf_le a.Cuts k
      rw [hc]
      simp [insP]
      omega
  · obtain ⟨i, x, hx, h⟩ := anyI_some h
    rw [Nat.zero_add] at h
    unfold nextAt at h
    simp only [Bool.or_eq_true] at h
    rcases h with h | h
    · refine law_len ha hb ?_
      unfold joinAt at h
      split at h
      · rw [no_hit] at h; cases h
      · rename_i hn
        simp only [Bool.or_eq_true, not_or, Bool.not_eq_true'] at hn
        have hr1 := isRange_facts (show isRange a (i + 1) = true by revert hn; cases isRange a (i + 1) <;> simp)
        have h4 := (good_facts ha).2.2.2.1
        have hc := (nextP_hit h).1
        have hl : b.Cuts.length = a.Cuts.length - 1 := by
          rw [hc]; simp only [delP, Int.toNat_natCast]
          rw [List.length_eraseIdx, if_pos (by omega)]
        omega
    · unfold ra at h
      obtain ⟨j, _, h⟩ := List.any_eq_true.1 h
      simp only [Bool.and_eq_true] at h
      exact law_give h.2
def ownersOf (a : TAtlas) (key : Str) : List Int := a.Maps.map fun p => gAt p (partOf p.Cuts key)
def ownersOfS (a : TAtlas) (key : Str) : List Int := a.Maps.map fun p => gAt p (rangeS p.Cuts key)
def prevM (a : TAtlas) (i : Nat) : TPlaces := a.Maps.getD (i - 1) noPlaces
def late (a : TAtlas) (i : Nat) (g : Int) : Bool := decide (a.Knows.getD g.toNat 0 < (i : Int))
def bad (a : TAtlas) (i : Nat) (p : TPlaces) : Bool := (!goodPlaces p || (decide (0 < (i : Int)) && !isNext (prevM a i) p)) || (decide (0 < (i : Int)) && (changed (prevM a i) p).any (late a i))
def badS (a : TAtlas) (i : Nat) (p : TPlaces) : Bool := (!goodPlacesS p || !isNextS (prevM a i) p) || (concerned (prevM a i) p).any (late a i)
def goodAtlas (a : TAtlas) : Bool := (within a.Maps.length 1 12 && ((a.Knows.length : Int) == 4) && !(a.Knows.any fun n => !within n 0 ((a.Maps.length : Int) - 1))) && !anyI (bad a) a.Maps 0
def goodAtlasS (a : TAtlas) : Bool := (within a.Maps.length 1 12 && ((a.Knows.length : Int) == 4) && (a.Knows.all fun n => within n 0 ((a.Maps.length : Int) - 1)) && goodPlacesS (a.Maps.getD 0 noPlaces)) && !anyI (badS a) (a.Maps.drop 1) 1
theorem prev_get {a : TAtlas} {i : Nat} {x : TPlaces} (h : a.Maps[i - 1]? = some x) : prevM a i = x := by unfold prevM; rw [List.getD_eq_getElem?_getD, h]; rfl
theorem any_bad_eq (a : TAtlas) : ∀ (l : List TPlaces) (k : Nat), l = a.Maps.drop k → 0 < k → goodPlaces (prevM a k) = true → anyI (bad a) l k = anyI (badS a) l k
  | [], _, _, _, _ => rfl
  | p :: l, k, hl, hk, hg => by
    have hp : a.Maps[k]? = some p := by
      have : (a.Maps.drop k)[0]? = some p := by rw [← hl]; rfl
      simpa using this
    have hl2 : l = a.Maps.drop (k + 1) := by rw [Go.AV.drop_some hp] at hl; injection hl
    unfold anyI
    have hd : decide (0 < (k : Int)) = true := by simp; omega
    have hb : bad a k p = badS a k p := by
      unfold bad badS
      rw [hd, Bool.true_and, Bool.true_and, goodPlaces_eq, isNext_eq, ← goodPlaces_eq, ← isNext_eq]
      cases h1 : goodPlaces p with
      | false => rfl
      | true =>
        cases h2 : isNext (prevM a k) p with
        | false => rfl
        | true => rw [changed_eq hg h1 h2]
    rw [hb]
    cases h3 : badS a k p with
    | true => rfl
    | false =>
      have h1 : goodPlaces p = true := by
        unfold badS at h3
        rw [← goodPlaces_eq] at h3
        cases h4 : goodPlaces p with
        | true => rfl
        | false => rw [h4] at h3; simp at h3
      rw [Bool.false_or, Bool.false_or]
      exact any_bad_eq a l (k + 1) hl2 (by omega) (by rw [prev_get (x := p) (by simpa using hp)]; exact h1)
theorem goodAtlas_eq (a : TAtlas) : goodAtlas a = goodAtlasS a := by
  unfold goodAtlas goodAtlasS
  rw [List.not_any_eq_all_not]
  have h2 : (a.Knows.all fun n => !!within n 0 ((a.Maps.length : Int) - 1)) = a.Knows.all fun n => within n 0 ((a.Maps.length : Int) - 1) := by congr 1; funext g; rw [Bool.not_not]
  rw [h2]
  cases h1 : within a.Maps.length 1 12 with
  | false => rfl
  | true =>
    obtain ⟨p, hp⟩ := Go.AV.get_some (show 0 < a.Maps.length by unfold within at h1; simp only [Bool.and_eq_true, decide_eq_true_eq] at h1; omega)
    have hd : a.Maps = p :: a.Maps.drop 1 := by have := Go.AV.drop_some hp; simpa using this
    have hg : a.Maps.getD 0 noPlaces = p := by rw [List.getD_eq_getElem?_getD, hp]; rfl
    have hu : anyI (bad a) a.Maps 0 = (bad a 0 p || anyI (bad a) (a.Maps.drop 1) 1) := by rw [hd]; rfl
    rw [hg, hu]
    have hb : bad a 0 p = !goodPlaces p := by unfold bad; simp
    rw [hb, ← goodPlaces_eq]
    cases h3 : goodPlaces p with
    | false => simp
    | true => rw [any_bad_eq a _ 1 rfl (by omega) (by rw [prev_get (x := p) (by simpa using hp)]; exact h3)]; simp
theorem pre_t {A B C : Bool} (h : ((!A || !B) || C) = true) : (A && B && !C) = false := by revert h; cases A <;> cases B <;> cases C <;> decide
theorem pre_f {A B C : Bool} (h : ((!A || !B) || C) = false) : (A && B && !C) = true := by revert h; cases A <;> cases B <;> cases C <;> decide
theorem preS_t {A B C D : Bool} (h : (((!A || !B) || !C) || !D) = true) : (A && B && C && D) = false := by revert h; cases A <;> cases B <;> cases C <;> cases D <;> decide
theorem preS_f {A B C D : Bool} (h : (((!A || !B) || !C) || !D) = false) : (A && B && C && D) = true := by revert h; cases A <;> cases B <;> cases C <;> cases D <;> decide
theorem anyI_false {α : Type} {f : Nat → α → Bool} : ∀ {l : List α} {k : Nat}, anyI f l k = false → ∀ i x, l[i]? = some x → f (k + i) x = false
  | [], _, _, i, x, hx => by simp at hx
  | y :: l, k, h, i, x, hx => by
    unfold anyI at h
    simp only [Bool.or_eq_false_iff] at h
    cases i with
    | zero => simp at hx; subst hx; exact h.1
    | succ i => rw [show k + (i + 1) = k + 1 + i by omega]; exact anyI_false h.2 i x (by simpa using hx)
theorem good_maps {a : TAtlas} (h : goodAtlas a = true) {i : Nat} {x : TPlaces} (hx : a.Maps[i]? = some x) : goodPlaces x = true := by
  unfold goodAtlas at h
  simp only [Bool.and_eq_true, Bool.not_eq_true'] at h
  have := anyI_false h.2 i x hx
  unfold bad at this
  simp only [Bool.or_eq_false_iff, Bool.not_eq_false'] at this
  exact this.1.1
theorem atlas_facts {a : TAtlas} (h : goodAtlas a = true) : 1 ≤ a.Maps.length ∧ a.Maps.length ≤ 12 ∧ a.Knows.length = 4 ∧ ∀ n ∈ a.Knows, 0 ≤ n ∧ n < a.Maps.length := by
  rw [goodAtlas_eq] at h
  unfold goodAtlasS at h
  simp only [Bool.and_eq_true, beq_iff_eq, List.all_eq_true] at h
  obtain ⟨⟨⟨⟨h1, h2⟩, h3⟩, _⟩, _⟩ := h
  unfold within at h1 h3
  simp only [Bool.and_eq_true, decide_eq_true_eq] at h1 h3
  refine ⟨by omega, by omega, by omega, fun n hn => ?_⟩
  have := h3 n hn
  omega
def ownersOfR (a : TAtlas) (key : Str) : List Int × Bool := if (!goodAtlas a || !goodKey key) = true then ([], false) else (ownersOf a key, true)
def ownersOfRS (a : TAtlas) (key : Str) : List Int × Bool := if (!goodAtlasS a || !l3Key key) = true then ([], false) else (ownersOfS a key, true)
theorem ownersOf_eq (a : TAtlas) (key : Str) : ownersOfR a key = ownersOfRS a key := by
  unfold ownersOfR ownersOfRS
  rw [← goodAtlas_eq, ← goodKey_eq]
  cases hg : goodAtlas a with
  | false => rfl
  | true =>
    have : ownersOf a key = ownersOfS a key := List.map_congr_left fun p hp => by
      obtain ⟨i, hi⟩ := List.getElem?_of_mem hp
      rw [partOf_eq key (good_facts (good_maps hg hi)).2.2.2.2.1]
    rw [this]
theorem map_snoc {α β : Type} {l : List α} {i : Nat} {x : α} (f : α → β) (h : l[i]? = some x) : (l.take i).map f ++ [f x] = (l.take (i + 1)).map f := by rw [List.take_add_one, h, List.map_append]; rfl
theorem map_snoc2 {α β γ : Type} {l : List α} {i : Nat} {x : α} (f : α → β) (g : β → γ) (h : l[i]? = some x) : ((l.take i).map f).map g ++ [g (f x)] = ((l.take (i + 1)).map f).map g := by rw [← map_snoc f h, List.map_append]; rfl
def newAtlas (p : TPlaces) : TAtlas × Bool := if (!goodPlaces p) = true then (⟨[], []⟩, false) else (⟨[p], [0, 0, 0, 0]⟩, true)
def newAtlasS (p : TPlaces) : TAtlas × Bool := if (!goodPlacesS p) = true then (⟨[], []⟩, false) else (⟨[p], [0, 0, 0, 0]⟩, true)
theorem newAtlas_eq (p : TPlaces) : newAtlas p = newAtlasS p := by unfold newAtlas newAtlasS; rw [goodPlaces_eq]
def mx (y t : Int) : Int := if t > y then t else y
def tellGroup (a : TAtlas) (g t : Int) : TAtlas × Bool := if (!goodAtlas a || !isGroup g || !within t 0 ((a.Maps.length : Int) - 1)) = true then (⟨[], []⟩, false) else (⟨a.Maps, a.Knows.set g.toNat (mx (a.Knows.getD g.toNat 0) t)⟩, true)
def tellGroupS (a : TAtlas) (g t : Int) : TAtlas × Bool := if (!goodAtlasS a || !within g 0 3 || !within t 0 ((a.Maps.length : Int) - 1)) = true then (⟨[], []⟩, false) else (⟨a.Maps, a.Knows.set g.toNat (mx (a.Knows.getD g.toNat 0) t)⟩, true)
theorem tellGroup_eq (a : TAtlas) (g t : Int) : tellGroup a g t = tellGroupS a g t := by unfold tellGroup tellGroupS isGroup; rw [goodAtlas_eq]
def setK (ks : List Int) (gs : List Int) (n : Int) : List Int := gs.foldl (fun ks g => ks.set g.toNat n) ks
theorem setK_step {ks gs : List Int} {n g : Int} {j : Nat} (h : gs[j]? = some g) : (setK ks (gs.take j) n).set g.toNat n = setK ks (gs.take (j + 1)) n := by
  unfold setK; rw [List.take_add_one, h, List.foldl_append]; rfl
theorem setK_len : ∀ (gs ks : List Int) (n : Int), (setK ks gs n).length = ks.length
  | [], _, _ => rfl
  | g :: gs, ks, n => by unfold setK; simp only [List.foldl_cons]; have := setK_len gs (ks.set g.toNat n) n; unfold setK at this; rw [this, List.length_set]
def lastM (a : TAtlas) : TPlaces := a.Maps.getD (a.Maps.length - 1) noPlaces
def addMap (a : TAtlas) (p : TPlaces) : TAtlas × Bool := if (!goodAtlas a || ((a.Maps.length : Int) == 12) || !goodPlaces p || !isNext (lastM a) p) = true then (⟨[], []⟩, false) else (⟨a.Maps ++ [p], setK a.Knows (changed (lastM a) p) a.Maps.length⟩, true)
def addMapS (a : TAtlas) (p : TPlaces) : TAtlas × Bool := if (!goodAtlasS a || !goodPlacesS p || decide ((12 : Int) ≤ (a.Maps.length : Int)) || !isNextS (lastM a) p) = true then (⟨[], []⟩, false) else (⟨a.Maps ++ [p], setK a.Knows (concerned (lastM a) p) a.Maps.length⟩, true)
theorem lastM_good {a : TAtlas} (h : goodAtlas a = true) : a.Maps[a.Maps.length - 1]? = some (lastM a) ∧ goodPlaces (lastM a) = true := by
  have h1 := (atlas_facts h).1
  have h2 : a.Maps[a.Maps.length - 1]? = some (lastM a) := by unfold lastM; rw [List.getD_eq_getElem?_getD, List.getElem?_eq_getElem (by omega)]; rfl
  exact ⟨h2, good_maps h h2⟩
theorem addMap_eq (a : TAtlas) (p : TPlaces) : addMap a p = addMapS a p := by
  unfold addMap addMapS
  rw [← goodAtlas_eq, ← goodPlaces_eq, ← isNext_eq]
  cases hg : goodAtlas a with
  | false => rfl
  | true =>
    cases hp : goodPlaces p with
    | false => simp
    | true =>
      have h12 := (atlas_facts hg).2.1
      have e : ((a.Maps.length : Int) == 12) = decide ((12 : Int) ≤ (a.Maps.length : Int)) := by
        rw [Bool.eq_iff_iff]; simp only [beq_iff_eq, decide_eq_true_eq]; omega
      rw [e]
      cases hn : isNext (lastM a) p with
      | false => simp
      | true => rw [changed_eq (lastM_good hg).2 hp hn]; cases decide ((12 : Int) ≤ (a.Maps.length : Int)) <;> rfl
theorem map_size {a : TAtlas} {i : Nat} {x : TPlaces} {m : Nat} (h : a.size ≤ m) (hx : a.Maps[i]? = some x) : x.size ≤ m := by
  unfold TAtlas.size at h
  have := sizeL_get (f := TPlaces.size) hx
  omega
end Go.M

set_option linter.unusedVariables false
set_option linter.unusedSimpArgs false
set_option maxRecDepth 100000
namespace Go.Proofs.YtdgoejkijpllpaaGreatDoor
open Go Go.AV Go.M
attribute [local irreducible] OpW OpA OpS AWP FSpec ESpec GSpec OpE RetOk RetOkG RvDen Le Ev GuardIs SrcIs
end Go.Proofs.YtdgoejkijpllpaaGreatDoor

set_option linter.unusedVariables false
set_option linter.unusedSimpArgs false
namespace Go.M
open Go.AV
def ownerOf (p : TPlaces) (key : Str) : Int := gAt p (partOf p.Cuts key)
theorem gAt_nat (p : TPlaces) (n : Nat) : gAt p (n : Int) = p.Groups.getD n 0 := by unfold gAt; rw [Int.toNat_natCast]
theorem partOf_count (l : List Str) (key : Str) : partOf l key = l.countP fun c => sle c key := by unfold partOf; rw [List.countP_eq_length_filter]
theorem sle_tr {a b c : Str} (h : sle a b = true) (k : sle b c = true) : sle a c = true := by
  have h' := h
  unfold sle at h
  simp only [Bool.or_eq_true, beq_iff_eq] at h
  rcases h with h | h
  · exact sle_trans h k
  · subst h; exact k
theorem sle_total {a b : Str} (h : sle a b = false) : sle b a = true := by
  have := bytesLess_tri a b
  unfold sle at *
  simp only [Bool.or_eq_false_iff, beq_eq_false_iff_ne, ne_eq] at h
  simp only [Bool.or_eq_true, beq_iff_eq]
  cases hb : Op.bytesLess b a with
  | true => exact .inl rfl
  | false => exact .inr (by simp_all)
theorem part_le {l : List Str} {a b : Str} (h : sle a b = true) : partOf l a ≤ partOf l b := by
  rw [partOf_count, partOf_count]
  exact List.countP_mono_left fun c _ hc => sle_tr hc h
theorem part_ins (l : List Str) (n : Nat) (k key : Str) : partOf (l.take n ++ k :: l.drop n) key = partOf l key + (if sle k key = true then 1 else 0) := by
  rw [partOf_count, partOf_count, List.countP_append, List.countP_cons]
  have h : l.countP (fun c => sle c key) = (l.take n).countP (fun c => sle c key) + (l.drop n).countP (fun c => sle c key) := by
    rw [← List.countP_append, List.take_append_drop]
  omega
theorem split_owner {p : TPlaces} (hg : goodPlaces p = true) (k key : Str) : ownerOf (insP p (partOf p.Cuts k) k) key = ownerOf p key := by
  have h4 := (good_facts hg).2.2.2.1
  unfold ownerOf
  rw [gAt_nat, gAt_nat]
  unfold insP
  simp only []
  rw [part_ins]
  have hn := partOf_le p.Cuts k
  have hr := partOf_le p.Cuts key
  have hl : (p.Groups.take (partOf p.Cuts k)).length = partOf p.Cuts k := by rw [List.length_take]; omega
  rw [List.getD_eq_getElem?_getD, List.getD_eq_getElem?_getD]
  cases hk : sle k key with
  | true =>
    have h1 := part_le (l := p.Cuts) hk
    rw [if_pos rfl, List.getElem?_append_right (by omega), hl, show partOf p.Cuts key + 1 - partOf p.Cuts k = (partOf p.Cuts key - partOf p.Cuts k) + 1 by omega, List.getElem?_cons_succ, List.getElem?_drop, show partOf p.Cuts k + (partOf p.Cuts key - partOf p.Cuts k) = partOf p.Cuts key by omega, ← List.getD_eq_getElem?_getD]
  | false =>
    have h1 := part_le (l := p.Cuts) (sle_total hk)
    rw [if_neg (by decide), Nat.add_zero]
    rcases Nat.lt_or_ge (partOf p.Cuts key) (partOf p.Cuts k) with h2 | h2
    · rw [List.getElem?_append_left (by omega), List.getElem?_take_of_lt h2, ← List.getD_eq_getElem?_getD]
    · have h3 : partOf p.Cuts key = partOf p.Cuts k := by omega
      rw [h3, List.getElem?_append_right (by omega), hl, Nat.sub_self, List.getElem?_cons_zero, List.getD_eq_getElem?_getD, Option.getD_some]
theorem part_del {l : List Str} {i : Nat} {c : Str} (h : l[i]? = some c) (key : Str) : partOf l key = partOf (l.eraseIdx i) key + (if sle c key = true then 1 else 0) := by
  rw [partOf_count, partOf_count, List.eraseIdx_eq_take_drop_succ, List.countP_append]
  have hd : l = l.take i ++ c :: l.drop (i + 1) := by
    have := List.take_append_drop i l
    rw [drop_some h] at this
    exact this.symm
  conv => lhs; rw [hd]
  rw [List.countP_append, List.countP_cons]
  omega
theorem tw_lt {α : Type} {p : α → Bool} : ∀ {l : List α} {i : Nat} {x : α}, i < (l.takeWhile p).length → l[i]? = some x → p x = true
  | [], i, x, h, _ => by simp at h
  | y :: l, i, x, h, hx => by
    cases hy : p y with
    | false => simp [hy] at h
    | true =>
      cases i with
      | zero => simp at hx; subst hx; exact hy
      | succ i => simp [hy] at h; exact tw_lt h (by simpa using hx)
theorem sorted_part {l : List Str} (hs : adj Op.bytesLess l = true) {i : Nat} {c : Str} (h : l[i]? = some c) (key : Str) : (sle c key = true → i + 1 ≤ partOf l key) ∧ (sle c key = false → partOf l key ≤ i) := by
  have hi := (List.getElem?_eq_some_iff.1 h).1
  rw [partOf_eq key hs]
  unfold rangeS
  constructor
  · intro hk
    rcases Nat.lt_or_ge i (l.takeWhile fun c => sle c key).length with h1 | h1
    · exact h1
    · exfalso
      obtain ⟨d, hd⟩ := get_some (show (l.takeWhile fun c => sle c key).length < l.length by omega)
      have hf := tw_at (p := fun c => sle c key) (l := l) rfl hd
      rcases Nat.eq_or_lt_of_le h1 with h2 | h2
      · rw [← h2] at h; rw [hd] at h; injection h with h; subst h; rw [hf] at hk; cases hk
      · have := adj_get (p := Op.bytesLess) (fun a b c h1 h2 => bytesLess_trans h1 h2) hs h2 hd h
        rw [sle_trans this hk] at hf; cases hf
  · intro hk
    rcases Nat.lt_or_ge i (l.takeWhile fun c => sle c key).length with h1 | h1
    · exfalso
      have := tw_lt (p := fun c => sle c key) h1 h
      rw [hk] at this; cases this
    · exact h1
theorem join_owner {p : TPlaces} (hg : goodPlaces p = true) {i : Nat} (hi : i + 1 < p.Groups.length) (he : p.Groups.getD i 0 = p.Groups.getD (i + 1) 0) (key : Str) : ownerOf (delP p i) key = ownerOf p key := by
  obtain ⟨_, _, _, h4, h5, _⟩ := good_facts hg
  obtain ⟨c, hc⟩ := get_some (show i < p.Cuts.length by omega)
  obtain ⟨s1, s2⟩ := sorted_part h5 hc key
  have hd := part_del hc key
  unfold ownerOf
  rw [gAt_nat, gAt_nat]
  unfold delP
  simp only []
  rw [List.getD_eq_getElem?_getD, List.getD_eq_getElem?_getD]
  cases hk : sle c key with
  | true =>
    have h1 := s1 hk
    rw [hk, if_pos rfl] at hd
    rw [List.getElem?_eraseIdx_of_ge (by omega), ← hd]
  | false =>
    have h1 := s2 hk
    rw [hk, if_neg (by decide)] at hd
    rcases Nat.lt_or_ge (partOf (p.Cuts.eraseIdx i) key) i with h2 | h2
    · rw [List.getElem?_eraseIdx_of_lt h2, hd, Nat.add_zero]
    · have h3 : partOf (p.Cuts.eraseIdx i) key = i := by omega
      rw [hd, Nat.add_zero, h3, List.getElem?_eraseIdx_of_ge (Nat.le_refl _), ← List.getD_eq_getElem?_getD, ← List.getD_eq_getElem?_getD, he]
theorem owner_same {a b : TPlaces} (hc : b.Cuts = a.Cuts) (hg : b.Groups = a.Groups) (key : Str) : ownerOf b key = ownerOf a key := by unfold ownerOf gAt; rw [hc, hg]
theorem owner_next {a b : TPlaces} (ha : goodPlaces a = true) (hb : goodPlaces b = true) (h : isNext a b = true) (key : Str) : ownerOf b key = ownerOf a key ∨ ownerOf b key ∈ changed a b := by
  unfold isNext at h
  simp only [Bool.or_eq_true, List.any_eq_true] at h
  rcases h with ⟨k, _, h⟩ | h
  · refine .inl ?_
    unfold splitAt at h
    split at h
    · rw [no_hit] at h; cases h
    · obtain ⟨h1, h2⟩ := nextP_hit h
      rw [owner_same h1 h2, split_owner ha]
  · obtain ⟨i, x, hx, h⟩ := anyI_some h
    rw [Nat.zero_add] at h
    unfold nextAt at h
    simp only [Bool.or_eq_true] at h
    rcases h with h | h
    · refine .inl ?_
      unfold joinAt at h
      split at h
      · rw [no_hit] at h; cases h
      · rename_i hn
        simp only [Bool.or_eq_true, not_or, Bool.not_eq_true'] at hn
        obtain ⟨⟨_, hn1⟩, hn2⟩ := hn
        have hr1 := isRange_facts (show isRange a (i + 1) = true by revert hn1; cases isRange a (i + 1) <;> simp)
        obtain ⟨h1, h2⟩ := nextP_hit h
        rw [Int.toNat_natCast] at h1 h2
        rw [owner_same h1 h2]
        refine join_owner ha (by omega) ?_ key
        have h3 : gAt a i = gAt a ((i : Int) + 1) := by
          cases h9 : gAt a i != gAt a ((i : Int) + 1) with
          | true => rw [h9] at hn2; exact absurd rfl hn2
          | false => simpa using h9
        rw [gAt_nat, show ((i : Int) + 1) = ((i + 1 : Nat) : Int) by omega, gAt_nat] at h3
        exact h3
    · unfold ra at h
      obtain ⟨j, _, h⟩ := List.any_eq_true.1 h
      simp only [Bool.and_eq_true] at h
      have h := h.2
      have hlaw := law_give h
      unfold giveTo at h
      split at h
      · rw [no_hit] at h; cases h
      · rename_i hn
        simp only [Bool.or_eq_true, not_or, Bool.not_eq_true'] at hn
        obtain ⟨⟨hr, _⟩, hgk⟩ := hn
        have hr1 := isRange_facts (show isRange a i = true by revert hr; cases isRange a i <;> simp)
        obtain ⟨h1, h2⟩ := nextP_hit h
        have hcut : b.Cuts = a.Cuts := by rw [h1]; rfl
        have hgr : b.Groups = a.Groups.set i j := by rw [h2]; simp [setP]
        have hxj : (x == (j : Int)) = false := by
          have h9 : gAt a i = x := by rw [gAt_nat, List.getD_eq_getElem?_getD, hx]; rfl
          rw [h9] at hgk
          revert hgk; cases x == (j : Int) <;> simp
        have hch : changed a b = [x, (j : Int)] := by unfold changed; rw [if_neg (by rw [hcut]; simp), hgr, chg_set hx hxj]
        rw [hch]
        have ho : ownerOf b key = (a.Groups.set i (j : Int)).getD (partOf a.Cuts key) 0 := by unfold ownerOf; rw [gAt_nat, hcut, hgr]
        have ho2 : ownerOf a key = a.Groups.getD (partOf a.Cuts key) 0 := by unfold ownerOf; rw [gAt_nat]
        rcases Nat.decEq i (partOf a.Cuts key) with h5 | h5
        · refine .inl ?_
          rw [ho, ho2, List.getD_eq_getElem?_getD, List.getElem?_set_ne h5, ← List.getD_eq_getElem?_getD]
        · refine .inr ?_
          rw [ho, ← h5, List.getD_eq_getElem?_getD, List.getElem?_set_self (by omega)]
          simp
def mapAt (a : TAtlas) (i : Nat) : TPlaces := a.Maps.getD i noPlaces
def knowsAt (a : TAtlas) (g : Int) : Int := a.Knows.getD g.toNat 0
def stepW (a : TAtlas) (key : Str) (g : Int) : Int := ownerOf (mapAt a (knowsAt a g).toNat) key
def extW (a : TAtlas) (key : Str) : Nat → Int → List Int
  | 0, _ => []
  | f + 1, g => if (stepW a key g == g) = true then [] else stepW a key g :: extW a key f (stepW a key g)
theorem mapAt_get {a : TAtlas} {i : Nat} (h : i < a.Maps.length) : a.Maps[i]? = some (mapAt a i) := by unfold mapAt; rw [List.getD_eq_getElem?_getD, List.getElem?_eq_getElem h]; rfl
theorem know_change {a : TAtlas} (hg : goodAtlas a = true) {j : Nat} (h0 : 0 < j) (hj : j < a.Maps.length) (key : Str) (hne : ownerOf (mapAt a (j - 1)) key ≠ ownerOf (mapAt a j) key) : (j : Int) ≤ knowsAt a (ownerOf (mapAt a j) key) := by
  have hp := mapAt_get (a := a) (i := j) hj
  have hq := mapAt_get (a := a) (i := j - 1) (by omega)
  have hgp := good_maps hg hp
  have hgq := good_maps hg hq
  have hpv : prevM a j = mapAt a (j - 1) := rfl
  unfold goodAtlas at hg
  simp only [Bool.and_eq_true, Bool.not_eq_true'] at hg
  have hb := anyI_false hg.2 j _ hp
  rw [Nat.zero_add] at hb
  unfold bad at hb
  have hd : decide (0 < (j : Int)) = true := by simp; omega
  rw [hd, Bool.true_and, Bool.true_and, hpv] at hb
  simp only [Bool.or_eq_false_iff, Bool.not_eq_false'] at hb
  rcases owner_next hgq hgp hb.1.2 key with h | h
  · exact absurd h.symm hne
  · have h1 := List.any_eq_false.1 hb.2 _ h
    unfold late at h1
    unfold knowsAt
    simp only [decide_eq_true_eq] at h1
    omega
theorem find_change {a : TAtlas} {key : Str} {m : Nat} : ∀ {n : Nat}, m ≤ n → ownerOf (mapAt a m) key ≠ ownerOf (mapAt a n) key → ∃ j, m < j ∧ j ≤ n ∧ ownerOf (mapAt a j) key = ownerOf (mapAt a n) key ∧ ownerOf (mapAt a (j - 1)) key ≠ ownerOf (mapAt a j) key
  | 0, h, hne => by
    have : m = 0 := by omega
    subst this; exact absurd rfl hne
  | n + 1, h, hne => by
    rcases Nat.eq_or_lt_of_le h with h1 | h1
    · subst h1; exact absurd rfl hne
    · by_cases h2 : ownerOf (mapAt a n) key = ownerOf (mapAt a (n + 1)) key
      · obtain ⟨j, j1, j2, j3, j4⟩ := find_change (a := a) (key := key) (m := m) (n := n) (by omega) (by rw [h2]; exact hne)
        exact ⟨j, j1, by omega, by rw [j3, h2], j4⟩
      · exact ⟨n + 1, by omega, Nat.le_refl _, rfl, by simpa using h2⟩
theorem knows_range {a : TAtlas} (hg : goodAtlas a = true) {g : Int} (h : 0 ≤ g ∧ g < 4) : 0 ≤ knowsAt a g ∧ knowsAt a g < a.Maps.length := by
  obtain ⟨_, _, h4, hk⟩ := atlas_facts hg
  obtain ⟨x, hx⟩ := get_some (show g.toNat < a.Knows.length by omega)
  unfold knowsAt
  rw [List.getD_eq_getElem?_getD, hx]
  exact hk x (List.mem_of_getElem? hx)
theorem owner_range {p : TPlaces} (hg : goodPlaces p = true) (key : Str) : 0 ≤ ownerOf p key ∧ ownerOf p key < 4 := by
  have h4 := (good_facts hg).2.2.2.1
  have hr := partOf_le p.Cuts key
  obtain ⟨x, hx⟩ := get_some (show partOf p.Cuts key < p.Groups.length by omega)
  unfold ownerOf
  rw [gAt_nat, List.getD_eq_getElem?_getD, hx]
  exact good_groups hg x (List.mem_of_getElem? hx)
theorem way_first {a : TAtlas} (hg : goodAtlas a = true) (key : Str) {m : Nat} (hm : m < a.Maps.length) : (m : Int) ≤ knowsAt a (ownerOf (mapAt a m) key) ∨ stepW a key (ownerOf (mapAt a m) key) = ownerOf (mapAt a m) key := by
  have hr := knows_range hg (owner_range (good_maps hg (mapAt_get hm)) key)
  rcases (show knowsAt a (ownerOf (mapAt a m) key) < (m : Int) ∨ (m : Int) ≤ knowsAt a (ownerOf (mapAt a m) key) by omega) with h | h
  · refine .inr ?_
    unfold stepW
    by_cases h2 : ownerOf (mapAt a (knowsAt a (ownerOf (mapAt a m) key)).toNat) key = ownerOf (mapAt a m) key
    · exact h2
    · obtain ⟨j, j1, j2, j3, j4⟩ := find_change (a := a) (key := key) (m := (knowsAt a (ownerOf (mapAt a m) key)).toNat) (n := m) (by omega) h2
      have := know_change hg (j := j) (by omega) (by omega) key j4
      rw [j3] at this
      omega
  · exact .inl h
theorem way_next {a : TAtlas} (hg : goodAtlas a = true) (key : Str) {m : Nat} {g : Int} (hm : m < a.Maps.length) (ho : ownerOf (mapAt a m) key = g) (hk : (m : Int) ≤ knowsAt a g) (hne : stepW a key g ≠ g) : ∃ j, m < j ∧ j < a.Maps.length ∧ ownerOf (mapAt a j) key = stepW a key g ∧ (j : Int) ≤ knowsAt a (stepW a key g) := by
  have hr := knows_range hg (g := g) (by rw [← ho]; exact owner_range (good_maps hg (mapAt_get hm)) key)
  obtain ⟨j, j1, j2, j3, j4⟩ := find_change (a := a) (key := key) (m := m) (n := (knowsAt a g).toNat) (by omega) (by rw [ho]; exact fun h => hne h.symm)
  refine ⟨j, j1, by omega, j3, ?_⟩
  have := know_change hg (j := j) (by omega) (by omega) key j4
  rw [j3] at this
  exact this
theorem extW_end {a : TAtlas} {key : Str} {g : Int} (h : stepW a key g = g) : ∀ f, extW a key f g = []
  | 0 => rfl
  | f + 1 => by unfold extW; rw [if_pos (by rw [h]; simp)]
theorem extW_step {a : TAtlas} {key : Str} {g : Int} (h : stepW a key g ≠ g) : ∀ {f : Nat}, 0 < f → extW a key f g = stepW a key g :: extW a key (f - 1) (stepW a key g)
  | 0, h0 => by omega
  | f + 1, _ => by
    conv => lhs; unfold extW
    rw [if_neg (by simpa using h)]; rfl
def way (a : TAtlas) (m : Nat) (key : Str) : List Int := ownerOf (mapAt a m) key :: extW a key a.Maps.length (ownerOf (mapAt a m) key)
def wayFor (a : TAtlas) (i : Int) (key : Str) : List Int × Bool := if (!goodAtlas a || !goodKey key || !within i 0 ((a.Maps.length : Int) - 1)) = true then ([], false) else (way a i.toNat key, true)
def wayForS (a : TAtlas) (i : Int) (key : Str) : List Int × Bool := if (!goodAtlasS a || !within i 0 ((a.Maps.length : Int) - 1) || !l3Key key) = true then ([], false) else (way a i.toNat key, true)
theorem wayFor_eq (a : TAtlas) (i : Int) (key : Str) : wayFor a i key = wayForS a i key := by
  unfold wayFor wayForS
  rw [← goodAtlas_eq, ← goodKey_eq]
  cases goodAtlas a <;> cases goodKey key <;> cases within i 0 ((a.Maps.length : Int) - 1) <;> rfl
theorem extW_len {a : TAtlas} {key : Str} : ∀ (f : Nat) (g : Int), (extW a key f g).length ≤ f
  | 0, _ => Nat.le_refl _
  | f + 1, g => by
    unfold extW
    split
    · exact Nat.zero_le _
    · simp only [List.length_cons]; have := extW_len (a := a) (key := key) f (stepW a key g); omega
theorem owner_part {p : TPlaces} (hg : goodPlaces p = true) (key : Str) : gAt p (rangeS p.Cuts key) = ownerOf p key := by unfold ownerOf; rw [partOf_eq key (good_facts hg).2.2.2.2.1]
end Go.M

set_option linter.unusedVariables false
set_option linter.unusedSimpArgs false
namespace Go.M
def groupOf (p : TPlaces) (key : Str) : Int × Bool := if (!goodPlaces p || !goodKey key) = true then (0, false) else (ownerOf p key, true)
def rangeOf (p : TPlaces) (key : Str) : Int × Bool := if (!goodPlaces p || !goodKey key) = true then (0, false) else ((partOf p.Cuts key : Int), true)
theorem nextP_ok {p : TPlaces} (h : (nextP p).2 = true) : goodPlaces (bump p) = true ∧ (nextP p).1 = bump p := by
  unfold nextP at h ⊢
  split at h
  · cases h
  · rename_i hh
    rw [if_neg hh]
    exact ⟨by simpa using hh, rfl⟩
theorem splitAt_ok {p : TPlaces} {key : Str} (h : (splitAt p key).2 = true) : goodPlaces p = true ∧ goodPlaces (splitAt p key).1 = true ∧ ∀ y, ownerOf (splitAt p key).1 y = ownerOf p y := by
  unfold splitAt at h ⊢
  split at h
  · cases h
  · rename_i hh
    rw [if_neg hh]
    obtain ⟨h1, h2⟩ := nextP_ok h
    have hg : goodPlaces p = true := by cases hg : goodPlaces p with | true => rfl | false => (rw [hg] at hh; simp at hh)
    rw [h2]
    exact ⟨hg, h1, fun y => (owner_same rfl rfl y).trans (split_owner hg key y)⟩
theorem joinAt_ok {p : TPlaces} {i : Int} (h : (joinAt p i).2 = true) : goodPlaces p = true ∧ goodPlaces (joinAt p i).1 = true ∧ ∀ y, ownerOf (joinAt p i).1 y = ownerOf p y := by
  unfold joinAt at h ⊢
  split at h
  · cases h
  · rename_i hh
    rw [if_neg hh]
    obtain ⟨h1, h2⟩ := nextP_ok h
    simp only [Bool.or_eq_true, Bool.not_eq_true', not_or, Bool.not_eq_false, bne_iff_ne, ne_eq, Decidable.not_not] at hh
    obtain ⟨⟨r1, r2⟩, r3⟩ := hh
    obtain ⟨hg, i0, i1⟩ := isRange_facts r1
    obtain ⟨_, j0, j1⟩ := isRange_facts r2
    rw [h2]
    refine ⟨hg, h1, fun y => (owner_same rfl rfl y).trans (join_owner hg (i := i.toNat) (by omega) ?_ y)⟩
    have h3 := r3
    unfold gAt at h3
    rw [show (i + 1).toNat = i.toNat + 1 by omega] at h3
    exact h3
theorem giveTo_ok {p : TPlaces} {i g : Int} (h : (giveTo p i g).2 = true) : goodPlaces p = true ∧ goodPlaces (giveTo p i g).1 = true ∧ ∀ y, ((partOf p.Cuts y : Int) = i → ownerOf (giveTo p i g).1 y = g) ∧ ((partOf p.Cuts y : Int) ≠ i → ownerOf p y = ownerOf (giveTo p i g).1 y) := by
  unfold giveTo at h ⊢
  split at h
  · cases h
  · rename_i hh
    rw [if_neg hh]
    obtain ⟨h1, h2⟩ := nextP_ok h
    simp only [Bool.or_eq_true, Bool.not_eq_true', not_or, Bool.not_eq_false] at hh
    obtain ⟨hg, i0, i1⟩ := isRange_facts hh.1.1
    rw [h2]
    refine ⟨hg, h1, fun y => ⟨fun e => ?_, fun e => ?_⟩⟩
    · unfold ownerOf gAt bump setP
      simp only [Int.toNat_natCast]
      rw [show partOf p.Cuts y = i.toNat by omega, List.getD_eq_getElem?_getD, List.getElem?_set_self (by omega)]; rfl
    · unfold ownerOf gAt bump setP
      simp only [Int.toNat_natCast]
      rw [List.getD_eq_getElem?_getD, List.getD_eq_getElem?_getD, List.getElem?_set_ne (by omega)]
theorem groupOf_good {p : TPlaces} {k : Str} (h : goodPlaces p = true) (hk : goodKey k = true) : groupOf p k = (ownerOf p k, true) := by
  unfold groupOf; rw [h, hk]; rfl
theorem rangeOf_good {p : TPlaces} {k : Str} (h : goodPlaces p = true) (hk : goodKey k = true) : rangeOf p k = ((partOf p.Cuts k : Int), true) := by
  unfold rangeOf; rw [h, hk]; rfl
theorem sizeL_bd {α : Type} {f : α → Nat} {c : Nat} : ∀ {l : List α}, (∀ x ∈ l, f x ≤ c) → sizeL f l ≤ l.length * (c + 1)
  | [], _ => Nat.zero_le _
  | x :: l, h => by
    have h1 := sizeL_bd (l := l) fun y hy => h y (List.mem_cons_of_mem _ hy)
    have h2 := h x List.mem_cons_self
    unfold sizeL at h1 ⊢
    simp only [List.length_cons, List.map_cons, List.sum_cons]
    have : (l.length + 1) * (c + 1) = l.length * (c + 1) + (c + 1) := Nat.succ_mul _ _
    omega
theorem good_size {p : TPlaces} (h : goodPlaces p = true) : p.size ≤ 60 := by
  obtain ⟨_, _, h3, h4, _, h6⟩ := good_facts h
  have hk : ∀ k ∈ p.Cuts, k.length ≤ 12 := fun k hk => by
    have := List.all_eq_true.1 h6 k hk
    unfold goodKey at this
    simp only [Bool.and_eq_true] at this
    have h8 := this.1
    unfold within at h8
    simp at h8
    omega
  have h5 := sizeL_bd (f := fun k : Str => k.length) hk
  unfold TPlaces.size
  have h7 : p.Cuts.length * 13 ≤ 4 * 13 := Nat.mul_le_mul_right _ h3
  omega
theorem good_one {v g : Int} (hv : 0 ≤ v ∧ v ≤ 50) (hg : 0 ≤ g ∧ g < 4) : goodPlaces ⟨v, [], [g]⟩ = true := by
  have e1 : within v 0 50 = true := by unfold within; simp; omega
  have e2 : isGroup g = true := by unfold isGroup within; simp; omega
  unfold goodPlaces
  simp only [List.any_cons, List.any_nil, e1, e2]
  rfl
theorem good_ver {p : TPlaces} {v : Int} (h : goodPlaces p = true) (hv : 0 ≤ v ∧ v ≤ 50) : goodPlaces ⟨v, p.Cuts, p.Groups⟩ = true := by
  have e1 : within v 0 50 = true := by unfold within; simp; omega
  unfold goodPlaces at h ⊢
  simp only [Bool.and_eq_true] at h ⊢
  exact ⟨⟨⟨⟨e1, h.1.1.1.2⟩, h.1.1.2⟩, h.1.2⟩, h.2⟩
theorem good_set {p : TPlaces} {i : Nat} {g : Int} (h : goodPlaces p = true) (hg : 0 ≤ g ∧ g < 4) : goodPlaces ⟨p.Ver, p.Cuts, p.Groups.set i g⟩ = true := by
  have e2 : isGroup g = true := by unfold isGroup within; simp; omega
  unfold goodPlaces at h ⊢
  simp only [Bool.and_eq_true, Bool.not_eq_true', List.any_eq_false, List.length_set] at h ⊢
  refine ⟨h.1, fun x hx => ?_⟩
  rcases List.mem_or_eq_of_mem_set hx with h1 | h1
  · exact h.2 x h1
  · rw [h1, e2]; decide
end Go.M

set_option linter.unusedVariables false
set_option linter.unusedSimpArgs false
set_option maxRecDepth 100000
namespace Go.M
open Go.AV
theorem splitAt_size (p : TPlaces) (key : Str) : (splitAt p key).1.size ≤ p.size + key.length + 2 := by
  unfold splitAt; split
  · exact Nat.zero_le _
  · unfold nextP; split
    · exact Nat.zero_le _
    · exact Nat.le_of_eq ((bump_size _).trans (insP_size p _ key))
theorem joinAt_size (p : TPlaces) (i : Int) : (joinAt p i).1.size ≤ p.size := by
  unfold joinAt; split
  · exact Nat.zero_le _
  · unfold nextP; split
    · exact Nat.zero_le _
    · exact Nat.le_trans (Nat.le_of_eq (bump_size _)) (delP_size p _)
theorem giveTo_size (p : TPlaces) (i g : Int) : (giveTo p i g).1.size ≤ p.size := by
  unfold giveTo; split
  · exact Nat.zero_le _
  · unfold nextP; split
    · exact Nat.zero_le _
    · exact Nat.le_of_eq ((bump_size _).trans (setP_size p _ _))
theorem places_lens {p : TPlaces} {m : Nat} (h : p.size ≤ m) : p.Cuts.length ≤ m ∧ p.Groups.length ≤ m := by
  unfold TPlaces.size at h
  have := sizeL_len (f := fun x : Str => x.length) (l := p.Cuts)
  exact ⟨by omega, by omega⟩
theorem flatI (l : List Int) : (l.map fun x => [AV.int x]).flatten = l.map fun x => AV.int x := by induction l with
  | nil => rfl
  | cons x l ih => rw [List.map_cons, List.flatten_cons, ih]; rfl
theorem sizeL_snoc {α : Type} (f : α → Nat) (l : List α) (x : α) : sizeL f (l ++ [x]) = sizeL f l + f x + 1 := by
  unfold sizeL; simp only [List.length_append, List.map_append, List.sum_append, List.length_cons, List.length_nil, List.map_cons, List.map_nil, List.sum_cons, List.sum_nil]; omega
end Go.M
namespace Go.Proofs.YtdgoejkijpllpaaGreatDoor
open Go Go.AV Go.M
attribute [local irreducible] OpW OpA OpS AWP FSpec ESpec GSpec OpE RetOk RetOkG RvDen Le Ev GuardIs SrcIs Int.tmod IntKind.wrap bandI
theorem rangeOf_spec (p : TPlaces) (key : Str) (hs : p.size ≤ 4194304) (hk : key.length ≤ 4194304) : FSpec Tryz.prog 5 [AV.agg p.cs, AV.str key] (AV.tup [AV.int (rangeOf p key).1, AV.bool (rangeOf p key).2]) := by
  refine spec_of_awp Tryz.func5 rfl Tryz.ntmps5 rfl ?_
  refine awp_seq ?_
  refine awp_region ?_
  refine sq_box rfl rfl rfl rfl (ev_tmp rfl) ?_
  intro b2
  refine sq_plain rfl rfl rfl (w_assign rfl ev_ci) ?_
  refine sq_plain rfl rfl rfl (w_assign rfl ev_cb) ?_
  refine sq_nil ?_
  refine awp_seq ?_
  refine awp_seq ?_
  refine awp_region ?_
  refine sq_plain rfl rfl rfl (w_loadA 0 rfl (ev_tmp rfl) rfl Tryz.isAgg26 Tryz.sizeOf26 rfl) ?_
  refine sq_plain rfl rfl rfl (w_call rfl Tryz.call17 rfl (goodPlaces_spec _ (by first | assumption | omega)) (evl_cons (ev_tmp rfl) evl_nil)) ?_
  refine sq_plain rfl rfl rfl (w_not rfl (ev_tmp rfl)) ?_
  refine sq_plain rfl rfl rfl (w_move rfl (ev_tmp rfl)) ?_
  refine sq_grd rfl rfl (guard_f rfl rfl rfl) (fun hc => w_move rfl (ev_tmp rfl)) ?_
  refine sq_grd rfl rfl (guard_f rfl rfl rfl) (fun hc => w_call rfl Tryz.call18 rfl (goodKey_spec _ (by omega)) (evl_cons (ev_whn rfl hc) evl_nil)) ?_
  refine sq_grd rfl rfl (guard_f rfl rfl rfl) (fun hc => w_not rfl (ev_whn rfl hc)) ?_
  refine sq_plain rfl rfl rfl (w_or rfl (ev_tmp rfl) (evif_w rfl)) ?_
  refine sq_nil ?_
  refine awp_cond (ev_tmp rfl) ?_ ?_
  · intro h13
    have he : rangeOf p key = (0, false) := by unfold rangeOf; rw [if_pos h13]
    rw [he]
    refine awp_seq ?_
    refine awp_region ?_
    refine sq_plain rfl rfl rfl (w_assign rfl ev_ci) ?_
    refine sq_plain rfl rfl rfl (w_assign rfl ev_cb) ?_
    refine sq_nil ?_
    refine awp_ret ?_
    exact retN rfl (by decide) (rv_cons (rv_tmp' rfl (by first | rfl | (refine congrArg AV.bool ?_; simp_all; done))) (rv_cons (rv_tmp' rfl (by first | rfl | (refine congrArg AV.bool ?_; simp_all; done))) rv_nil))
  · intro h13
    have he : rangeOf p key = ((partOf p.Cuts key : Int), true) := by unfold rangeOf; rw [if_neg (by rw [h13]; decide)]
    rw [he]
    refine awp_skip ?_
    refine awp_seq ?_
    refine awp_region ?_
    refine sq_plain rfl rfl rfl (w_fldBn 1 rfl Tryz.underlying26 rfl Tryz.sizeOf23 (ev_tmp rfl) rfl) ?_
    refine sq_plain rfl rfl rfl (w_loadB1 0 rfl (ev_tmp rfl) rfl Tryz.isAgg23 rfl) ?_
    refine sq_plain rfl rfl rfl (w_move rfl (ev_tmp rfl)) ?_
    refine sq_plain rfl rfl rfl (w_call rfl Tryz.call19 rfl (partOf_spec _ _) (evl_cons (ev_tmp rfl) (evl_cons (ev_tmp rfl) evl_nil))) ?_
    refine sq_plain rfl rfl rfl (w_assign rfl (ev_tmp rfl)) ?_
    refine sq_plain rfl rfl rfl (w_assign rfl ev_cb) ?_
    refine sq_nil ?_
    refine awp_ret ?_
    exact retN rfl (by decide) (rv_cons (rv_tmp' rfl (by first | rfl | (refine congrArg AV.bool ?_; simp_all; done))) (rv_cons (rv_tmp' rfl (by first | rfl | (refine congrArg AV.bool ?_; simp_all; done))) rv_nil))
theorem curPlaces_own (b : Nat) (code : List Int) (hcode : ByteL code) (c : TCur) (hp : c.p ≤ 2000000) : GSpec Tryz.prog 33 [AV.ptr b 0] [.box b 45 (curC code c)] (fun x : TCur × TPlaces × Value × Value => x.1.p ≤ c.p + 40 ∧ goodPlaces x.2.1 = true) (fun x => .box b 45 (curC code x.1) :: TPlaces.ow x.2.1 x.2.2) (fun x => AV.agg (TPlaces.ocs x.2.1 x.2.2)) := by
  refine gspec_of_awp Tryz.func33 rfl Tryz.ntmps33 rfl ?_
  refine awp_seq ?_
  refine awp_region ?_
  refine sq_alloc rfl rfl rfl rfl Tryz.zeroValue26 rfl ?_
  intro b2
  refine sq_nil ?_
  refine awp_seq ?_
  refine awp_region ?_
  refine sq_plain rfl rfl rfl (w_move rfl (ev_tmp rfl)) ?_
  refine sq_callG [1] rfl rfl rfl rfl Tryz.call30 rfl (curPick_own _ _ hcode _ _ (by omega) (by omega)) (evl_cons (ev_tmp rfl) (evl_cons ev_ci evl_nil)) rfl ?_
  intro x8 ok8
  refine sq_plain rfl rfl rfl (w_move rfl (ev_tmp rfl)) ?_
  refine sq_callG [0] rfl rfl rfl rfl Tryz.call30 rfl (curPick_own _ _ hcode _ _ (by omega) (by omega)) (evl_cons (ev_tmp rfl) (evl_cons ev_ci evl_nil)) rfl ?_
  intro x10 ok10
  refine sq_bsliceO rfl rfl rfl rfl Tryz.underlying24 Tryz.sizeOf3 Tryz.zeroValue3 rfl rfl rfl rfl (bp_cons (ev_tmp rfl) (as_ik _ _) bp_nil) rfl rfl ?_
  intro v11
  refine sq_fact 0 rfl fun one_v11 => ?_
  refine sq_plain rfl rfl rfl (w_build (places := #[(0, 1), (1, 1), (2, 1)]) rfl Tryz.underlying26 Tryz.zeroValue26 (fun w => by kernel_rfl) rfl (bp_cons (ev_tmp rfl) (as_ik _ _) (bp_cons (ev_tmp rfl) (as_is one_v11) bp_nil)) rfl) ?_
  refine sq_alloc rfl rfl rfl rfl Tryz.zeroValue26 rfl ?_
  intro b3
  refine sq_storeB0 0 rfl rfl rfl (ev_tmp rfl) (ev_tmp rfl) (as_agg _) rfl Tryz.sizeOf26 rfl ?_
  refine sq_nil ?_
  refine awp_seq ?_
  refine awp_seq ?_
  refine awp_own (by first | (simp only [TPlaces.ow, TPlaces.ocs, pick, List.eraseIdx_cons_zero, List.eraseIdx_cons_succ, List.set_cons_zero, List.set_cons_succ, List.cons_append, List.nil_append, List.getElem?_cons_zero, List.getElem?_cons_succ, List.append_nil, List.take_succ_cons, List.take_zero, List.drop_succ_cons, List.drop_zero]; exact rfl) | exact rfl) ?_
  refine awp_region ?_
  refine sq_plain rfl rfl rfl (w_move rfl (ev_tmp rfl)) ?_
  refine sq_callG [2] rfl rfl rfl rfl Tryz.call30 rfl (curPick_own _ _ hcode _ _ (by omega) (by omega)) (evl_cons (ev_tmp rfl) (evl_cons ev_ci evl_nil)) rfl ?_
  intro x14 ok14
  refine sq_plain rfl rfl rfl (w_assign rfl (ev_tmp rfl)) ?_
  refine sq_nil ?_
  refine awp_block ?_
  refine awp_own (by first | (simp only [TPlaces.ow, TPlaces.ocs, pick, List.eraseIdx_cons_zero, List.eraseIdx_cons_succ, List.set_cons_zero, List.set_cons_succ, List.cons_append, List.nil_append, List.getElem?_cons_zero, List.getElem?_cons_succ, List.append_nil, List.take_succ_cons, List.take_zero, List.drop_succ_cons, List.drop_zero]; exact rfl) | exact rfl) ?_
  refine awp_nilown 9 1 ?_
  refine AWP.le (le_pick [2, 0, 1, 0] rfl) ?_
  refine awp_loop_i4 [(0, _), (2, _), (3, _)] _ (fun (n : Int) (cc : TCur) (p : TPlaces) (y : Value × Value) => (0 ≤ n ∧ n ≤ 4) ∧ cc.p + 6 * n ≤ c.p + 40 ∧ goodPlaces p = true) (fun (n : Int) (cc : TCur) (p : TPlaces) (y : Value × Value) => [.box b3 26 (TPlaces.ocs p y), .arr y.1 9 1 (p.Cuts.map fun x => [AV.str x]), .arr y.2 3 1 (p.Groups.map fun x => [AV.int x]), .box b 45 (curC code cc)]) (fun (n : Int) (cc : TCur) (p : TPlaces) (y : Value × Value) => [(4, AV.int n)]) (fun (n : Int) (cc : TCur) (p : TPlaces) (y : Value × Value) => n.toNat) (x14.2) (x14.1) (⟨x8.2, [], [x10.2]⟩) (((Value.slice none 0 0), v11)) ?_ (le_eq (by rfl) ⟨rfl, rfl, rfl, rfl, trivial⟩) ?_
  · exact ⟨by omega, by omega, good_one (by omega) (by omega)⟩
  intro n cc p y hinv
  have hps := good_size hinv.2.2
  refine awp_seq ?_
  refine awp_seq ?_
  refine awp_region ?_
  refine sq_plain rfl rfl rfl (w_move rfl (ev_tmp rfl)) ?_
  refine sq_plain rfl rfl rfl (w_gtr rfl (ev_tmp rfl) ev_ci) ?_
  refine sq_nil ?_
  refine awp_cond (ev_tmp rfl) ?_ ?_
  · intro h16
    have k16 := of_decide_eq_true h16; try simp only [List.length_map] at k16
    refine awp_skip ?_
    refine awp_seq ?_
    refine awp_block ?_
    refine awp_seq ?_
    refine AWP.le (le_pick [0, 0, 0] rfl) ?_
    refine awp_region_tree _ 9 (.pure 0 (.pure 1 (.e2 2 (.e2 3 (.pure 4 (.pure 5 (.pure 6 (.e1 7 (.e1 8 .nil))))) 7 (.e1 3 (.pure 4 (.pure 5 (.pure 6 (.e1 8 .nil)))))) 7 (.e1 2 (.e1 3 (.pure 4 (.pure 5 (.pure 6 (.e1 8 .nil))))))))) (by kernel_rfl) (by kernel_rfl) rfl (invx_take 3) ?_
    refine bt_plain rfl rfl rfl (fun ext => w_loadA 0 rfl (ev_tmp rfl) rfl Tryz.isAgg26 Tryz.sizeOf26 rfl) ?_
    refine bt_plain rfl rfl rfl (fun ext => w_move rfl (ev_tmp rfl)) ?_
    refine bt_e2 ?_ ?_
    · refine eff_s rfl rfl rfl (opE_call [3] rfl Tryz.call54 rfl (curKey_own _ _ hcode _ (by omega)) (evl_cons (ev_tmp rfl) evl_nil) rfl) (fun a _ => (by first | exact invx_mk rfl | exact invx_mk (List.append_assoc _ _ _) | exact invx_all)) ?_
      intro x22 ok22
      refine bt_e2 ?_ ?_
      · refine eff_s rfl rfl rfl (opE_callB [] rfl Tryz.call53 rfl (splitAtS_own p x22.2 (by omega) (by omega)) rfl (evlb_cons (evb_lt (ev_tmp rfl) (lt_agg (lc_cons lt_refl (lc_cons (lt_arr (List.mem_of_getElem? (i := 1) rfl) le_refl_e) (lc_cons (lt_arr (List.mem_of_getElem? (i := 2) rfl) le_refl_e) lc_nil))))) (evlb_cons (evb (ev_tmp rfl)) evlb_nil)) (by first | exact flatO_nil | (intro _; exact flatO_nil) | (intro _; first | exact flat_is _ | exact flat_ik _ _ | exact flat_bool _ | exact flat_str _ | exact flat_nils) | (intro _; refine flat_tup ?_; (repeat (first | exact flatl_nil | (refine flatl_cons (by first | (first | exact flat_is _ | exact flat_ik _ _ | exact flat_bool _ | exact flat_str _ | exact flat_nils) | (refine flat_agg ?_; (repeat (first | exact flatl_nil | (refine flatl_cons (by first | exact flat_is _ | exact flat_ik _ _ | exact flat_bool _ | exact flat_str _ | exact flat_nils) ?_))))) ?_))); done) | (intro _; refine flat_agg ?_; (repeat (first | exact flatl_nil | (refine flatl_cons (by first | exact flat_is _ | exact flat_ik _ _ | exact flat_bool _ | exact flat_str _ | exact flat_nils) ?_))); done) | ((repeat (first | exact flatO_nil | (refine flatO_cons (flatO_box ?_) ?_; (repeat (first | exact flatl_nil | (refine flatl_cons (by first | exact flat_is _ | exact flat_ik _ _ | exact flat_bool _ | exact flat_str _ | exact flat_nils) ?_)))) | (refine flatO_cons (flatO_arr ?_) ?_; (repeat (first | exact flate_nil | (refine flate_map (fun _ => ?_); (first | exact TWrite.flat _ | exact TFeedItem.flat _ | exact TIdx.flat _ | exact TVer.flat _ | (repeat (first | exact flatl_nil | (refine flatl_cons (by first | exact flat_is _ | exact flat_ik _ _ | exact flat_bool _ | exact flat_str _ | exact flat_nils) ?_))))) | (refine flate_rep ?_; (first | exact TWrite.flat _ | exact TFeedItem.flat _ | exact TIdx.flat _ | exact TVer.flat _ | (repeat (first | exact flatl_nil | (refine flatl_cons (by first | exact flat_is _ | exact flat_ik _ _ | exact flat_bool _ | exact flat_str _ | exact flat_nils) ?_))))) | (refine flate_cons ?_ ?_; (first | exact TWrite.flat _ | exact TFeedItem.flat _ | exact TIdx.flat _ | exact TVer.flat _ | (repeat (first | exact flatl_nil | (refine flatl_cons (by first | exact flat_is _ | exact flat_ik _ _ | exact flat_bool _ | exact flat_str _ | exact flat_nils) ?_))))) | refine flate_app ?_ ?_))))); done) | (intro _; (repeat (first | exact flatO_nil | (refine flatO_cons (flatO_box ?_) ?_; (repeat (first | exact flatl_nil | (refine flatl_cons (by first | exact flat_is _ | exact flat_ik _ _ | exact flat_bool _ | exact flat_str _ | exact flat_nils) ?_)))) | (refine flatO_cons (flatO_arr ?_) ?_; (repeat (first | exact flate_nil | (refine flate_map (fun _ => ?_); (first | exact TWrite.flat _ | exact TFeedItem.flat _ | exact TIdx.flat _ | exact TVer.flat _ | (repeat (first | exact flatl_nil | (refine flatl_cons (by first | exact flat_is _ | exact flat_ik _ _ | exact flat_bool _ | exact flat_str _ | exact flat_nils) ?_))))) | (refine flate_rep ?_; (first | exact TWrite.flat _ | exact TFeedItem.flat _ | exact TIdx.flat _ | exact TVer.flat _ | (repeat (first | exact flatl_nil | (refine flatl_cons (by first | exact flat_is _ | exact flat_ik _ _ | exact flat_bool _ | exact flat_str _ | exact flat_nils) ?_))))) | (refine flate_cons ?_ ?_; (first | exact TWrite.flat _ | exact TFeedItem.flat _ | exact TIdx.flat _ | exact TVer.flat _ | (repeat (first | exact flatl_nil | (refine flatl_cons (by first | exact flat_is _ | exact flat_ik _ _ | exact flat_bool _ | exact flat_str _ | exact flat_nils) ?_))))) | refine flate_app ?_ ?_))))); done)) (by first | exact flatO_nil | (intro _; exact flatO_nil) | (intro _; first | exact flat_is _ | exact flat_ik _ _ | exact flat_bool _ | exact flat_str _ | exact flat_nils) | (intro _; refine flat_tup ?_; (repeat (first | exact flatl_nil | (refine flatl_cons (by first | (first | exact flat_is _ | exact flat_ik _ _ | exact flat_bool _ | exact flat_str _ | exact flat_nils) | (refine flat_agg ?_; (repeat (first | exact flatl_nil | (refine flatl_cons (by first | exact flat_is _ | exact flat_ik _ _ | exact flat_bool _ | exact flat_str _ | exact flat_nils) ?_))))) ?_))); done) | (intro _; refine flat_agg ?_; (repeat (first | exact flatl_nil | (refine flatl_cons (by first | exact flat_is _ | exact flat_ik _ _ | exact flat_bool _ | exact flat_str _ | exact flat_nils) ?_))); done) | ((repeat (first | exact flatO_nil | (refine flatO_cons (flatO_box ?_) ?_; (repeat (first | exact flatl_nil | (refine flatl_cons (by first | exact flat_is _ | exact flat_ik _ _ | exact flat_bool _ | exact flat_str _ | exact flat_nils) ?_)))) | (refine flatO_cons (flatO_arr ?_) ?_; (repeat (first | exact flate_nil | (refine flate_map (fun _ => ?_); (first | exact TWrite.flat _ | exact TFeedItem.flat _ | exact TIdx.flat _ | exact TVer.flat _ | (repeat (first | exact flatl_nil | (refine flatl_cons (by first | exact flat_is _ | exact flat_ik _ _ | exact flat_bool _ | exact flat_str _ | exact flat_nils) ?_))))) | (refine flate_rep ?_; (first | exact TWrite.flat _ | exact TFeedItem.flat _ | exact TIdx.flat _ | exact TVer.flat _ | (repeat (first | exact flatl_nil | (refine flatl_cons (by first | exact flat_is _ | exact flat_ik _ _ | exact flat_bool _ | exact flat_str _ | exact flat_nils) ?_))))) | (refine flate_cons ?_ ?_; (first | exact TWrite.flat _ | exact TFeedItem.flat _ | exact TIdx.flat _ | exact TVer.flat _ | (repeat (first | exact flatl_nil | (refine flatl_cons (by first | exact flat_is _ | exact flat_ik _ _ | exact flat_bool _ | exact flat_str _ | exact flat_nils) ?_))))) | refine flate_app ?_ ?_))))); done) | (intro _; (repeat (first | exact flatO_nil | (refine flatO_cons (flatO_box ?_) ?_; (repeat (first | exact flatl_nil | (refine flatl_cons (by first | exact flat_is _ | exact flat_ik _ _ | exact flat_bool _ | exact flat_str _ | exact flat_nils) ?_)))) | (refine flatO_cons (flatO_arr ?_) ?_; (repeat (first | exact flate_nil | (refine flate_map (fun _ => ?_); (first | exact TWrite.flat _ | exact TFeedItem.flat _ | exact TIdx.flat _ | exact TVer.flat _ | (repeat (first | exact flatl_nil | (refine flatl_cons (by first | exact flat_is _ | exact flat_ik _ _ | exact flat_bool _ | exact flat_str _ | exact flat_nils) ?_))))) | (refine flate_rep ?_; (first | exact TWrite.flat _ | exact TFeedItem.flat _ | exact TIdx.flat _ | exact TVer.flat _ | (repeat (first | exact flatl_nil | (refine flatl_cons (by first | exact flat_is _ | exact flat_ik _ _ | exact flat_bool _ | exact flat_str _ | exact flat_nils) ?_))))) | (refine flate_cons ?_ ?_; (first | exact TWrite.flat _ | exact TFeedItem.flat _ | exact TIdx.flat _ | exact TVer.flat _ | (repeat (first | exact flatl_nil | (refine flatl_cons (by first | exact flat_is _ | exact flat_ik _ _ | exact flat_bool _ | exact flat_str _ | exact flat_nils) ?_))))) | refine flate_app ?_ ?_))))); done)) (by first | exact flatO_nil | (intro _; exact flatO_nil) | (intro _; first | exact flat_is _ | exact flat_ik _ _ | exact flat_bool _ | exact flat_str _ | exact flat_nils) | (intro _; refine flat_tup ?_; (repeat (first | exact flatl_nil | (refine flatl_cons (by first | (first | exact flat_is _ | exact flat_ik _ _ | exact flat_bool _ | exact flat_str _ | exact flat_nils) | (refine flat_agg ?_; (repeat (first | exact flatl_nil | (refine flatl_cons (by first | exact flat_is _ | exact flat_ik _ _ | exact flat_bool _ | exact flat_str _ | exact flat_nils) ?_))))) ?_))); done) | (intro _; refine flat_agg ?_; (repeat (first | exact flatl_nil | (refine flatl_cons (by first | exact flat_is _ | exact flat_ik _ _ | exact flat_bool _ | exact flat_str _ | exact flat_nils) ?_))); done) | ((repeat (first | exact flatO_nil | (refine flatO_cons (flatO_box ?_) ?_; (repeat (first | exact flatl_nil | (refine flatl_cons (by first | exact flat_is _ | exact flat_ik _ _ | exact flat_bool _ | exact flat_str _ | exact flat_nils) ?_)))) | (refine flatO_cons (flatO_arr ?_) ?_; (repeat (first | exact flate_nil | (refine flate_map (fun _ => ?_); (first | exact TWrite.flat _ | exact TFeedItem.flat _ | exact TIdx.flat _ | exact TVer.flat _ | (repeat (first | exact flatl_nil | (refine flatl_cons (by first | exact flat_is _ | exact flat_ik _ _ | exact flat_bool _ | exact flat_str _ | exact flat_nils) ?_))))) | (refine flate_rep ?_; (first | exact TWrite.flat _ | exact TFeedItem.flat _ | exact TIdx.flat _ | exact TVer.flat _ | (repeat (first | exact flatl_nil | (refine flatl_cons (by first | exact flat_is _ | exact flat_ik _ _ | exact flat_bool _ | exact flat_str _ | exact flat_nils) ?_))))) | (refine flate_cons ?_ ?_; (first | exact TWrite.flat _ | exact TFeedItem.flat _ | exact TIdx.flat _ | exact TVer.flat _ | (repeat (first | exact flatl_nil | (refine flatl_cons (by first | exact flat_is _ | exact flat_ik _ _ | exact flat_bool _ | exact flat_str _ | exact flat_nils) ?_))))) | refine flate_app ?_ ?_))))); done) | (intro _; (repeat (first | exact flatO_nil | (refine flatO_cons (flatO_box ?_) ?_; (repeat (first | exact flatl_nil | (refine flatl_cons (by first | exact flat_is _ | exact flat_ik _ _ | exact flat_bool _ | exact flat_str _ | exact flat_nils) ?_)))) | (refine flatO_cons (flatO_arr ?_) ?_; (repeat (first | exact flate_nil | (refine flate_map (fun _ => ?_); (first | exact TWrite.flat _ | exact TFeedItem.flat _ | exact TIdx.flat _ | exact TVer.flat _ | (repeat (first | exact flatl_nil | (refine flatl_cons (by first | exact flat_is _ | exact flat_ik _ _ | exact flat_bool _ | exact flat_str _ | exact flat_nils) ?_))))) | (refine flate_rep ?_; (first | exact TWrite.flat _ | exact TFeedItem.flat _ | exact TIdx.flat _ | exact TVer.flat _ | (repeat (first | exact flatl_nil | (refine flatl_cons (by first | exact flat_is _ | exact flat_ik _ _ | exact flat_bool _ | exact flat_str _ | exact flat_nils) ?_))))) | (refine flate_cons ?_ ?_; (first | exact TWrite.flat _ | exact TFeedItem.flat _ | exact TIdx.flat _ | exact TVer.flat _ | (repeat (first | exact flatl_nil | (refine flatl_cons (by first | exact flat_is _ | exact flat_ik _ _ | exact flat_bool _ | exact flat_str _ | exact flat_nils) ?_))))) | refine flate_app ?_ ?_))))); done))) (fun a _ => (by first | exact invx_mk rfl | exact invx_mk (List.append_assoc _ _ _) | exact invx_all)) ?_
        intro x23 ok23
        refine bt_plain rfl rfl rfl (fun ext => w_move rfl (ev_tmp rfl)) ?_
        refine bt_plain rfl rfl rfl (fun ext => w_extract rfl (ev_tmp rfl) rfl) ?_
        refine bt_plain rfl rfl rfl (fun ext => w_extract rfl (ev_tmp rfl) rfl) ?_
        refine bt_e1 ?_
        refine eff_s rfl rfl rfl (opE_alloc rfl Tryz.zeroValue26 rfl) (fun a _ => (by first | exact invx_mk rfl | exact invx_mk (List.append_assoc _ _ _) | exact invx_all)) ?_
        intro b5 _
        refine bt_e1 ?_
        refine eff_s0 rfl rfl rfl (opE_storeB0 7 rfl rfl (ev_tmp rfl) (ev_tmp rfl) (as_agg _) rfl Tryz.sizeOf26 rfl) (fun a _ => (by first | exact invx_mk rfl | exact invx_mk (List.append_assoc _ _ _) | exact invx_all)) ?_
        intro _ _
        refine bt_nil ?_
        refine sq_plain rfl rfl rfl (w_assign rfl (ev_tmp rfl)) ?_
        refine sq_nil ?_
        refine awp_seq ?_
        refine awp_own (by first | (simp only [TPlaces.ow, TPlaces.ocs, pick, List.eraseIdx_cons_zero, List.eraseIdx_cons_succ, List.set_cons_zero, List.set_cons_succ, List.cons_append, List.nil_append, List.getElem?_cons_zero, List.getElem?_cons_succ, List.append_nil, List.take_succ_cons, List.take_zero, List.drop_succ_cons, List.drop_zero]; exact rfl) | exact rfl) ?_
        refine awp_region ?_
        refine sq_plain rfl rfl rfl (w_move rfl (ev_tmp rfl)) ?_
        refine sq_nil ?_
        refine awp_cond (ev_tmp rfl) ?_ ?_
        · intro h26
          have hsz := splitAt_size p x22.2
          have hgd := (splitAt_ok (p := p) (key := x22.2) (by rw [splitAt_eq]; exact h26)).2.1
          rw [splitAt_eq] at hsz hgd
          have hgl := (good_facts hgd).2.2.2.1
          have hpl := places_lens hsz
          refine awp_seq ?_
          refine awp_own (by first | (simp only [TPlaces.ow, TPlaces.ocs, pick, List.eraseIdx_cons_zero, List.eraseIdx_cons_succ, List.set_cons_zero, List.set_cons_succ, List.cons_append, List.nil_append, List.getElem?_cons_zero, List.getElem?_cons_succ, List.append_nil, List.take_succ_cons, List.take_zero, List.drop_succ_cons, List.drop_zero]; exact rfl) | exact rfl) ?_
          refine awp_region ?_
          refine sq_plain rfl rfl rfl (w_loadA 7 rfl (ev_tmp rfl) rfl Tryz.isAgg26 Tryz.sizeOf26 rfl) ?_
          refine sq_storeB0 0 rfl rfl rfl (ev_tmp rfl) (ev_tmp rfl) (as_agg _) rfl Tryz.sizeOf26 rfl ?_
          refine sq_nil ?_
          refine awp_own (by first | (simp only [TPlaces.ow, TPlaces.ocs, pick, List.eraseIdx_cons_zero, List.eraseIdx_cons_succ, List.set_cons_zero, List.set_cons_succ, List.cons_append, List.nil_append, List.getElem?_cons_zero, List.getElem?_cons_succ, List.append_nil, List.take_succ_cons, List.take_zero, List.drop_succ_cons, List.drop_zero]; exact rfl) | exact rfl) ?_
          refine AWP.le (le_pick [0, 4, 4] rfl) ?_
          refine awp_region_mix _ [(0, false), (1, false), (2, false), (3, false), (4, false), (5, false), (7, false), (6, true), (8, true)] (by kernel_rfl) (by kernel_rfl) rfl (invx_take 3) ?_
          refine bc_plain rfl rfl rfl (fun ext => w_fldBn 2 rfl Tryz.underlying26 rfl Tryz.sizeOf24 (ev_tmp rfl) rfl) ?_
          refine bc_plain rfl rfl rfl (fun ext => w_loadB1 0 rfl (ev_tmp rfl) rfl Tryz.isAgg24 rfl) ?_
          refine bc_plain rfl rfl rfl (fun ext => w_move rfl (ev_tmp rfl)) ?_
          refine bc_plain rfl rfl rfl (fun ext => w_fldBn 2 rfl Tryz.underlying26 rfl Tryz.sizeOf24 (ev_tmp rfl) rfl) ?_
          refine bc_plain rfl rfl rfl (fun ext => w_loadB1 0 rfl (ev_tmp rfl) rfl Tryz.isAgg24 rfl) ?_
          refine bc_plain rfl rfl rfl (fun ext => w_alen 2 rfl Tryz.underlying24 (ev_tmp rfl) rfl) ?_
          refine bc_plain rfl rfl rfl (fun ext => w_move rfl (ev_tmp rfl)) ?_
          refine bc_eff rfl rfl rfl (opE_call [6] rfl Tryz.call30 rfl (curPick_own _ _ hcode _ _ (by simp only [List.length_map]; omega) (by omega)) (evl_cons (ev_tmp rfl) (evl_cons (ev_tmp rfl) evl_nil)) rfl) (fun a _ => (by first | exact invx_mk rfl | exact invx_mk (List.append_assoc _ _ _) | exact invx_all)) ?_
          intro x34 ok34
          refine bc_eff rfl rfl rfl (opE_call [7] rfl Tryz.call30 rfl (curPick_own _ _ hcode _ _ (by omega) (by omega)) (evl_cons (ev_tmp rfl) (evl_cons ev_ci evl_nil)) rfl) (fun a _ => (by first | exact invx_mk rfl | exact invx_mk (List.append_assoc _ _ _) | exact invx_all)) ?_
          intro x36 ok36
          refine bc_nil ?_
          refine sq_plain rfl rfl rfl (w_aidx 2 rfl Tryz.underlying24 Tryz.sizeOf3 (ev_tmp rfl) rfl (ev_tmp rfl) (by first | omega | ((try simp only [List.length_map, List.length_take, List.length_cons, List.length_nil, chunks_len, szR] at *); omega) | (have hc2 := hc; simp only [Bool.and_eq_true, Bool.or_eq_true, Bool.or_eq_false_iff, Bool.and_eq_false_iff, Bool.not_eq_true', Bool.not_eq_false', decide_eq_true_eq, decide_eq_false_iff_not, beq_iff_eq, bne_iff_ne, List.length_map, List.length_take] at hc2; omega)) (by first | omega | ((try simp only [List.length_map, List.length_take, List.length_cons, List.length_nil, chunks_len, szR] at *); omega) | (have hc2 := hc; simp only [Bool.and_eq_true, Bool.or_eq_true, Bool.or_eq_false_iff, Bool.and_eq_false_iff, Bool.not_eq_true', Bool.not_eq_false', decide_eq_true_eq, decide_eq_false_iff_not, beq_iff_eq, bne_iff_ne, List.length_map, List.length_take] at hc2; omega))) ?_
          refine sq_storeA 2 rfl rfl rfl (ev_tmp rfl) (ev_tmp rfl) (as_ik _ _) rfl Tryz.sizeOf3 rfl (by first | omega | ((try simp only [List.length_map, List.length_take, List.length_cons, List.length_nil, chunks_len, szR] at *); omega) | (have hc2 := hc; simp only [Bool.and_eq_true, Bool.or_eq_true, Bool.or_eq_false_iff, Bool.and_eq_false_iff, Bool.not_eq_true', Bool.not_eq_false', decide_eq_true_eq, decide_eq_false_iff_not, beq_iff_eq, bne_iff_ne, List.length_map, List.length_take] at hc2; omega)) ?_
          refine sq_nil ?_
          refine awp_own (by first | (simp only [TPlaces.ow, TPlaces.ocs, pick, List.eraseIdx_cons_zero, List.eraseIdx_cons_succ, List.set_cons_zero, List.set_cons_succ, List.cons_append, List.nil_append, List.getElem?_cons_zero, List.getElem?_cons_succ, List.append_nil, List.take_succ_cons, List.take_zero, List.drop_succ_cons, List.drop_zero]; exact rfl) | exact rfl) ?_
          refine awp_region ?_
          refine sq_plain rfl rfl rfl (w_move rfl (ev_tmp rfl)) ?_
          refine sq_plain rfl rfl rfl (w_subi rfl (ev_tmp rfl) ev_ci (by first | omega | ((try simp only [List.length_map, List.length_take, List.length_cons, List.length_nil, chunks_len, szR] at *); omega) | (have hc2 := hc; simp only [Bool.and_eq_true, Bool.or_eq_true, Bool.or_eq_false_iff, Bool.and_eq_false_iff, Bool.not_eq_true', Bool.not_eq_false', decide_eq_true_eq, decide_eq_false_iff_not, beq_iff_eq, bne_iff_ne, List.length_map, List.length_take] at hc2; omega))) ?_
          refine sq_plain rfl rfl rfl (w_assign rfl (ev_tmp rfl)) ?_
          refine sq_nil ?_
          refine round_end4 n cc p y (n - 1) (x36.1) (⟨(splitAtS p x22.2).1.Ver, (splitAtS p x22.2).1.Cuts, (splitAtS p x22.2).1.Groups.set x34.2.toNat x36.2⟩) ((x23.1, x23.2)) ?_ ?_ (Le.trans (le_pick [3, 3, 4, 0, 0, 0, 1] rfl) (le_dropeq 3 (by first | rfl | (rw [List.map_set]; rfl)) ⟨rfl, rfl, rfl, rfl, trivial⟩))
          · exact ⟨by omega, by omega, good_set hgd (by omega)⟩
          · omega
        · intro h26
          refine awp_skip ?_
          refine awp_own (by first | (simp only [TPlaces.ow, TPlaces.ocs, pick, List.eraseIdx_cons_zero, List.eraseIdx_cons_succ, List.set_cons_zero, List.set_cons_succ, List.cons_append, List.nil_append, List.getElem?_cons_zero, List.getElem?_cons_succ, List.append_nil, List.take_succ_cons, List.take_zero, List.drop_succ_cons, List.drop_zero]; exact rfl) | exact rfl) ?_
          refine awp_region ?_
          refine sq_plain rfl rfl rfl (w_move rfl (ev_tmp rfl)) ?_
          refine sq_plain rfl rfl rfl (w_subi rfl (ev_tmp rfl) ev_ci (by first | omega | ((try simp only [List.length_map, List.length_take, List.length_cons, List.length_nil, chunks_len, szR] at *); omega) | (have hc2 := hc; simp only [Bool.and_eq_true, Bool.or_eq_true, Bool.or_eq_false_iff, Bool.and_eq_false_iff, Bool.not_eq_true', Bool.not_eq_false', decide_eq_true_eq, decide_eq_false_iff_not, beq_iff_eq, bne_iff_ne, List.length_map, List.length_take] at hc2; omega))) ?_
          refine sq_plain rfl rfl rfl (w_assign rfl (ev_tmp rfl)) ?_
          refine sq_nil ?_
          refine round_end4 n cc p y (n - 1) (x22.1) (p) (y) ?_ ?_ (Le.trans (le_pick [5, 5, 5, 0, 0, 0, 1] rfl) (le_dropeq 3 (by first | rfl | (rw [List.map_set]; rfl)) ⟨rfl, rfl, rfl, rfl, trivial⟩))
          · exact ⟨by omega, by omega, hinv.2.2⟩
          · omega
      · refine eff_s rfl rfl rfl (opE_alloc rfl Tryz.zeroValue26 rfl) (fun a _ => (by first | exact invx_mk rfl | exact invx_mk (List.append_assoc _ _ _) | exact invx_all)) ?_
        intro b5 _
        refine bt_e1 ?_
        refine eff_s rfl rfl rfl (opE_callB [] rfl Tryz.call53 rfl (splitAtS_own p x22.2 (by omega) (by omega)) rfl (evlb_cons (evb_lt (ev_tmp rfl) (lt_agg (lc_cons lt_refl (lc_cons (lt_arr (List.mem_of_getElem? (i := 1) rfl) le_refl_e) (lc_cons (lt_arr (List.mem_of_getElem? (i := 2) rfl) le_refl_e) lc_nil))))) (evlb_cons (evb (ev_tmp rfl)) evlb_nil)) (by first | exact flatO_nil | (intro _; exact flatO_nil) | (intro _; first | exact flat_is _ | exact flat_ik _ _ | exact flat_bool _ | exact flat_str _ | exact flat_nils) | (intro _; refine flat_tup ?_; (repeat (first | exact flatl_nil | (refine flatl_cons (by first | (first | exact flat_is _ | exact flat_ik _ _ | exact flat_bool _ | exact flat_str _ | exact flat_nils) | (refine flat_agg ?_; (repeat (first | exact flatl_nil | (refine flatl_cons (by first | exact flat_is _ | exact flat_ik _ _ | exact flat_bool _ | exact flat_str _ | exact flat_nils) ?_))))) ?_))); done) | (intro _; refine flat_agg ?_; (repeat (first | exact flatl_nil | (refine flatl_cons (by first | exact flat_is _ | exact flat_ik _ _ | exact flat_bool _ | exact flat_str _ | exact flat_nils) ?_))); done) | ((repeat (first | exact flatO_nil | (refine flatO_cons (flatO_box ?_) ?_; (repeat (first | exact flatl_nil | (refine flatl_cons (by first | exact flat_is _ | exact flat_ik _ _ | exact flat_bool _ | exact flat_str _ | exact flat_nils) ?_)))) | (refine flatO_cons (flatO_arr ?_) ?_; (repeat (first | exact flate_nil | (refine flate_map (fun _ => ?_); (first | exact TWrite.flat _ | exact TFeedItem.flat _ | exact TIdx.flat _ | exact TVer.flat _ | (repeat (first | exact flatl_nil | (refine flatl_cons (by first | exact flat_is _ | exact flat_ik _ _ | exact flat_bool _ | exact flat_str _ | exact flat_nils) ?_))))) | (refine flate_rep ?_; (first | exact TWrite.flat _ | exact TFeedItem.flat _ | exact TIdx.flat _ | exact TVer.flat _ | (repeat (first | exact flatl_nil | (refine flatl_cons (by first | exact flat_is _ | exact flat_ik _ _ | exact flat_bool _ | exact flat_str _ | exact flat_nils) ?_))))) | (refine flate_cons ?_ ?_; (first | exact TWrite.flat _ | exact TFeedItem.flat _ | exact TIdx.flat _ | exact TVer.flat _ | (repeat (first | exact flatl_nil | (refine flatl_cons (by first | exact flat_is _ | exact flat_ik _ _ | exact flat_bool _ | exact flat_str _ | exact flat_nils) ?_))))) | refine flate_app ?_ ?_))))); done) | (intro _; (repeat (first | exact flatO_nil | (refine flatO_cons (flatO_box ?_) ?_; (repeat (first | exact flatl_nil | (refine flatl_cons (by first | exact flat_is _ | exact flat_ik _ _ | exact flat_bool _ | exact flat_str _ | exact flat_nils) ?_)))) | (refine flatO_cons (flatO_arr ?_) ?_; (repeat (first | exact flate_nil | (refine flate_map (fun _ => ?_); (first | exact TWrite.flat _ | exact TFeedItem.flat _ | exact TIdx.flat _ | exact TVer.flat _ | (repeat (first | exact flatl_nil | (refine flatl_cons (by first | exact flat_is _ | exact flat_ik _ _ | exact flat_bool _ | exact flat_str _ | exact flat_nils) ?_))))) | (refine flate_rep ?_; (first | exact TWrite.flat _ | exact TFeedItem.flat _ | exact TIdx.flat _ | exact TVer.flat _ | (repeat (first | exact flatl_nil | (refine flatl_cons (by first | exact flat_is _ | exact flat_ik _ _ | exact flat_bool _ | exact flat_str _ | exact flat_nils) ?_))))) | (refine flate_cons ?_ ?_; (first | exact TWrite.flat _ | exact TFeedItem.flat _ | exact TIdx.flat _ | exact TVer.flat _ | (repeat (first | exact flatl_nil | (refine flatl_cons (by first | exact flat_is _ | exact flat_ik _ _ | exact flat_bool _ | exact flat_str _ | exact flat_nils) ?_))))) | refine flate_app ?_ ?_))))); done)) (by first | exact flatO_nil | (intro _; exact flatO_nil) | (intro _; first | exact flat_is _ | exact flat_ik _ _ | exact flat_bool _ | exact flat_str _ | exact flat_nils) | (intro _; refine flat_tup ?_; (repeat (first | exact flatl_nil | (refine flatl_cons (by first | (first | exact flat_is _ | exact flat_ik _ _ | exact flat_bool _ | exact flat_str _ | exact flat_nils) | (refine flat_agg ?_; (repeat (first | exact flatl_nil | (refine flatl_cons (by first | exact flat_is _ | exact flat_ik _ _ | exact flat_bool _ | exact flat_str _ | exact flat_nils) ?_))))) ?_))); done) | (intro _; refine flat_agg ?_; (repeat (first | exact flatl_nil | (refine flatl_cons (by first | exact flat_is _ | exact flat_ik _ _ | exact flat_bool _ | exact flat_str _ | exact flat_nils) ?_))); done) | ((repeat (first | exact flatO_nil | (refine flatO_cons (flatO_box ?_) ?_; (repeat (first | exact flatl_nil | (refine flatl_cons (by first | exact flat_is _ | exact flat_ik _ _ | exact flat_bool _ | exact flat_str _ | exact flat_nils) ?_)))) | (refine flatO_cons (flatO_arr ?_) ?_; (repeat (first | exact flate_nil | (refine flate_map (fun _ => ?_); (first | exact TWrite.flat _ | exact TFeedItem.flat _ | exact TIdx.flat _ | exact TVer.flat _ | (repeat (first | exact flatl_nil | (refine flatl_cons (by first | exact flat_is _ | exact flat_ik _ _ | exact flat_bool _ | exact flat_str _ | exact flat_nils) ?_))))) | (refine flate_rep ?_; (first | exact TWrite.flat _ | exact TFeedItem.flat _ | exact TIdx.flat _ | exact TVer.flat _ | (repeat (first | exact flatl_nil | (refine flatl_cons (by first | exact flat_is _ | exact flat_ik _ _ | exact flat_bool _ | exact flat_str _ | exact flat_nils) ?_))))) | (refine flate_cons ?_ ?_; (first | exact TWrite.flat _ | exact TFeedItem.flat _ | exact TIdx.flat _ | exact TVer.flat _ | (repeat (first | exact flatl_nil | (refine flatl_cons (by first | exact flat_is _ | exact flat_ik _ _ | exact flat_bool _ | exact flat_str _ | exact flat_nils) ?_))))) | refine flate_app ?_ ?_))))); done) | (intro _; (repeat (first | exact flatO_nil | (refine flatO_cons (flatO_box ?_) ?_; (repeat (first | exact flatl_nil | (refine flatl_cons (by first | exact flat_is _ | exact flat_ik _ _ | exact flat_bool _ | exact flat_str _ | exact flat_nils) ?_)))) | (refine flatO_cons (flatO_arr ?_) ?_; (repeat (first | exact flate_nil | (refine flate_map (fun _ => ?_); (first | exact TWrite.flat _ | exact TFeedItem.flat _ | exact TIdx.flat _ | exact TVer.flat _ | (repeat (first | exact flatl_nil | (refine flatl_cons (by first | exact flat_is _ | exact flat_ik _ _ | exact flat_bool _ | exact flat_str _ | exact flat_nils) ?_))))) | (refine flate_rep ?_; (first | exact TWrite.flat _ | exact TFeedItem.flat _ | exact TIdx.flat _ | exact TVer.flat _ | (repeat (first | exact flatl_nil | (refine flatl_cons (by first | exact flat_is _ | exact flat_ik _ _ | exact flat_bool _ | exact flat_str _ | exact flat_nils) ?_))))) | (refine flate_cons ?_ ?_; (first | exact TWrite.flat _ | exact TFeedItem.flat _ | exact TIdx.flat _ | exact TVer.flat _ | (repeat (first | exact flatl_nil | (refine flatl_cons (by first | exact flat_is _ | exact flat_ik _ _ | exact flat_bool _ | exact flat_str _ | exact flat_nils) ?_))))) | refine flate_app ?_ ?_))))); done)) (by first | exact flatO_nil | (intro _; exact flatO_nil) | (intro _; first | exact flat_is _ | exact flat_ik _ _ | exact flat_bool _ | exact flat_str _ | exact flat_nils) | (intro _; refine flat_tup ?_; (repeat (first | exact flatl_nil | (refine flatl_cons (by first | (first | exact flat_is _ | exact flat_ik _ _ | exact flat_bool _ | exact flat_str _ | exact flat_nils) | (refine flat_agg ?_; (repeat (first | exact flatl_nil | (refine flatl_cons (by first | exact flat_is _ | exact flat_ik _ _ | exact flat_bool _ | exact flat_str _ | exact flat_nils) ?_))))) ?_))); done) | (intro _; refine flat_agg ?_; (repeat (first | exact flatl_nil | (refine flatl_cons (by first | exact flat_is _ | exact flat_ik _ _ | exact flat_bool _ | exact flat_str _ | exact flat_nils) ?_))); done) | ((repeat (first | exact flatO_nil | (refine flatO_cons (flatO_box ?_) ?_; (repeat (first | exact flatl_nil | (refine flatl_cons (by first | exact flat_is _ | exact flat_ik _ _ | exact flat_bool _ | exact flat_str _ | exact flat_nils) ?_)))) | (refine flatO_cons (flatO_arr ?_) ?_; (repeat (first | exact flate_nil | (refine flate_map (fun _ => ?_); (first | exact TWrite.flat _ | exact TFeedItem.flat _ | exact TIdx.flat _ | exact TVer.flat _ | (repeat (first | exact flatl_nil | (refine flatl_cons (by first | exact flat_is _ | exact flat_ik _ _ | exact flat_bool _ | exact flat_str _ | exact flat_nils) ?_))))) | (refine flate_rep ?_; (first | exact TWrite.flat _ | exact TFeedItem.flat _ | exact TIdx.flat _ | exact TVer.flat _ | (repeat (first | exact flatl_nil | (refine flatl_cons (by first | exact flat_is _ | exact flat_ik _ _ | exact flat_bool _ | exact flat_str _ | exact flat_nils) ?_))))) | (refine flate_cons ?_ ?_; (first | exact TWrite.flat _ | exact TFeedItem.flat _ | exact TIdx.flat _ | exact TVer.flat _ | (repeat (first | exact flatl_nil | (refine flatl_cons (by first | exact flat_is _ | exact flat_ik _ _ | exact flat_bool _ | exact flat_str _ | exact flat_nils) ?_))))) | refine flate_app ?_ ?_))))); done) | (intro _; (repeat (first | exact flatO_nil | (refine flatO_cons (flatO_box ?_) ?_; (repeat (first | exact flatl_nil | (refine flatl_cons (by first | exact flat_is _ | exact flat_ik _ _ | exact flat_bool _ | exact flat_str _ | exact flat_nils) ?_)))) | (refine flatO_cons (flatO_arr ?_) ?_; (repeat (first | exact flate_nil | (refine flate_map (fun _ => ?_); (first | exact TWrite.flat _ | exact TFeedItem.flat _ | exact TIdx.flat _ | exact TVer.flat _ | (repeat (first | exact flatl_nil | (refine flatl_cons (by first | exact flat_is _ | exact flat_ik _ _ | exact flat_bool _ | exact flat_str _ | exact flat_nils) ?_))))) | (refine flate_rep ?_; (first | exact TWrite.flat _ | exact TFeedItem.flat _ | exact TIdx.flat _ | exact TVer.flat _ | (repeat (first | exact flatl_nil | (refine flatl_cons (by first | exact flat_is _ | exact flat_ik _ _ | exact flat_bool _ | exact flat_str _ | exact flat_nils) ?_))))) | (refine flate_cons ?_ ?_; (first | exact TWrite.flat _ | exact TFeedItem.flat _ | exact TIdx.flat _ | exact TVer.flat _ | (repeat (first | exact flatl_nil | (refine flatl_cons (by first | exact flat_is _ | exact flat_ik _ _ | exact flat_bool _ | exact flat_str _ | exact flat_nils) ?_))))) | refine flate_app ?_ ?_))))); done))) (fun a _ => (by first | exact invx_mk rfl | exact invx_mk (List.append_assoc _ _ _) | exact invx_all)) ?_
        intro x23 ok23
        refine bt_plain rfl rfl rfl (fun ext => w_move rfl (ev_tmp rfl)) ?_
        refine bt_plain rfl rfl rfl (fun ext => w_extract rfl (ev_tmp rfl) rfl) ?_
        refine bt_plain rfl rfl rfl (fun ext => w_extract rfl (ev_tmp rfl) rfl) ?_
        refine bt_e1 ?_
        refine eff_s0 rfl rfl rfl (opE_storeB0 5 rfl rfl (ev_tmp rfl) (ev_tmp rfl) (as_agg _) rfl Tryz.sizeOf26 rfl) (fun a _ => (by first | exact invx_mk rfl | exact invx_mk (List.append_assoc _ _ _) | exact invx_all)) ?_
        intro _ _
        refine bt_nil ?_
        refine sq_plain rfl rfl rfl (w_assign rfl (ev_tmp rfl)) ?_
        refine sq_nil ?_
        refine awp_seq ?_
        refine awp_own (by first | (simp only [TPlaces.ow, TPlaces.ocs, pick, List.eraseIdx_cons_zero, List.eraseIdx_cons_succ, List.set_cons_zero, List.set_cons_succ, List.cons_append, List.nil_append, List.getElem?_cons_zero, List.getElem?_cons_succ, List.append_nil, List.take_succ_cons, List.take_zero, List.drop_succ_cons, List.drop_zero]; exact rfl) | exact rfl) ?_
        refine awp_region ?_
        refine sq_plain rfl rfl rfl (w_move rfl (ev_tmp rfl)) ?_
        refine sq_nil ?_
        refine awp_cond (ev_tmp rfl) ?_ ?_
        · intro h26
          have hsz := splitAt_size p x22.2
          have hgd := (splitAt_ok (p := p) (key := x22.2) (by rw [splitAt_eq]; exact h26)).2.1
          rw [splitAt_eq] at hsz hgd
          have hgl := (good_facts hgd).2.2.2.1
          have hpl := places_lens hsz
          refine awp_seq ?_
          refine awp_own (by first | (simp only [TPlaces.ow, TPlaces.ocs, pick, List.eraseIdx_cons_zero, List.eraseIdx_cons_succ, List.set_cons_zero, List.set_cons_succ, List.cons_append, List.nil_append, List.getElem?_cons_zero, List.getElem?_cons_succ, List.append_nil, List.take_succ_cons, List.take_zero, List.drop_succ_cons, List.drop_zero]; exact rfl) | exact rfl) ?_
          refine awp_region ?_
          refine sq_plain rfl rfl rfl (w_loadA 5 rfl (ev_tmp rfl) rfl Tryz.isAgg26 Tryz.sizeOf26 rfl) ?_
          refine sq_storeB0 0 rfl rfl rfl (ev_tmp rfl) (ev_tmp rfl) (as_agg _) rfl Tryz.sizeOf26 rfl ?_
          refine sq_nil ?_
          refine awp_own (by first | (simp only [TPlaces.ow, TPlaces.ocs, pick, List.eraseIdx_cons_zero, List.eraseIdx_cons_succ, List.set_cons_zero, List.set_cons_succ, List.cons_append, List.nil_append, List.getElem?_cons_zero, List.getElem?_cons_succ, List.append_nil, List.take_succ_cons, List.take_zero, List.drop_succ_cons, List.drop_zero]; exact rfl) | exact rfl) ?_
          refine AWP.le (le_pick [0, 5, 5] rfl) ?_
          refine awp_region_mix _ [(0, false), (1, false), (2, false), (3, false), (4, false), (5, false), (7, false), (6, true), (8, true)] (by kernel_rfl) (by kernel_rfl) rfl (invx_take 3) ?_
          refine bc_plain rfl rfl rfl (fun ext => w_fldBn 2 rfl Tryz.underlying26 rfl Tryz.sizeOf24 (ev_tmp rfl) rfl) ?_
          refine bc_plain rfl rfl rfl (fun ext => w_loadB1 0 rfl (ev_tmp rfl) rfl Tryz.isAgg24 rfl) ?_
          refine bc_plain rfl rfl rfl (fun ext => w_move rfl (ev_tmp rfl)) ?_
          refine bc_plain rfl rfl rfl (fun ext => w_fldBn 2 rfl Tryz.underlying26 rfl Tryz.sizeOf24 (ev_tmp rfl) rfl) ?_
          refine bc_plain rfl rfl rfl (fun ext => w_loadB1 0 rfl (ev_tmp rfl) rfl Tryz.isAgg24 rfl) ?_
          refine bc_plain rfl rfl rfl (fun ext => w_alen 2 rfl Tryz.underlying24 (ev_tmp rfl) rfl) ?_
          refine bc_plain rfl rfl rfl (fun ext => w_move rfl (ev_tmp rfl)) ?_
          refine bc_eff rfl rfl rfl (opE_call [6] rfl Tryz.call30 rfl (curPick_own _ _ hcode _ _ (by simp only [List.length_map]; omega) (by omega)) (evl_cons (ev_tmp rfl) (evl_cons (ev_tmp rfl) evl_nil)) rfl) (fun a _ => (by first | exact invx_mk rfl | exact invx_mk (List.append_assoc _ _ _) | exact invx_all)) ?_
          intro x34 ok34
          refine bc_eff rfl rfl rfl (opE_call [7] rfl Tryz.call30 rfl (curPick_own _ _ hcode _ _ (by omega) (by omega)) (evl_cons (ev_tmp rfl) (evl_cons ev_ci evl_nil)) rfl) (fun a _ => (by first | exact invx_mk rfl | exact invx_mk (List.append_assoc _ _ _) | exact invx_all)) ?_
          intro x36 ok36
          refine bc_nil ?_
          refine sq_plain rfl rfl rfl (w_aidx 2 rfl Tryz.underlying24 Tryz.sizeOf3 (ev_tmp rfl) rfl (ev_tmp rfl) (by first | omega | ((try simp only [List.length_map, List.length_take, List.length_cons, List.length_nil, chunks_len, szR] at *); omega) | (have hc2 := hc; simp only [Bool.and_eq_true, Bool.or_eq_true, Bool.or_eq_false_iff, Bool.and_eq_false_iff, Bool.not_eq_true', Bool.not_eq_false', decide_eq_true_eq, decide_eq_false_iff_not, beq_iff_eq, bne_iff_ne, List.length_map, List.length_take] at hc2; omega)) (by first | omega | ((try simp only [List.length_map, List.length_take, List.length_cons, List.length_nil, chunks_len, szR] at *); omega) | (have hc2 := hc; simp only [Bool.and_eq_true, Bool.or_eq_true, Bool.or_eq_false_iff, Bool.and_eq_false_iff, Bool.not_eq_true', Bool.not_eq_false', decide_eq_true_eq, decide_eq_false_iff_not, beq_iff_eq, bne_iff_ne, List.length_map, List.length_take] at hc2; omega))) ?_
          refine sq_storeA 2 rfl rfl rfl (ev_tmp rfl) (ev_tmp rfl) (as_ik _ _) rfl Tryz.sizeOf3 rfl (by first | omega | ((try simp only [List.length_map, List.length_take, List.length_cons, List.length_nil, chunks_len, szR] at *); omega) | (have hc2 := hc; simp only [Bool.and_eq_true, Bool.or_eq_true, Bool.or_eq_false_iff, Bool.and_eq_false_iff, Bool.not_eq_true', Bool.not_eq_false', decide_eq_true_eq, decide_eq_false_iff_not, beq_iff_eq, bne_iff_ne, List.length_map, List.length_take] at hc2; omega)) ?_
          refine sq_nil ?_
          refine awp_own (by first | (simp only [TPlaces.ow, TPlaces.ocs, pick, List.eraseIdx_cons_zero, List.eraseIdx_cons_succ, List.set_cons_zero, List.set_cons_succ, List.cons_append, List.nil_append, List.getElem?_cons_zero, List.getElem?_cons_succ, List.append_nil, List.take_succ_cons, List.take_zero, List.drop_succ_cons, List.drop_zero]; exact rfl) | exact rfl) ?_
          refine awp_region ?_
          refine sq_plain rfl rfl rfl (w_move rfl (ev_tmp rfl)) ?_
          refine sq_plain rfl rfl rfl (w_subi rfl (ev_tmp rfl) ev_ci (by first | omega | ((try simp only [List.length_map, List.length_take, List.length_cons, List.length_nil, chunks_len, szR] at *); omega) | (have hc2 := hc; simp only [Bool.and_eq_true, Bool.or_eq_true, Bool.or_eq_false_iff, Bool.and_eq_false_iff, Bool.not_eq_true', Bool.not_eq_false', decide_eq_true_eq, decide_eq_false_iff_not, beq_iff_eq, bne_iff_ne, List.length_map, List.length_take] at hc2; omega))) ?_
          refine sq_plain rfl rfl rfl (w_assign rfl (ev_tmp rfl)) ?_
          refine sq_nil ?_
          refine round_end4 n cc p y (n - 1) (x36.1) (⟨(splitAtS p x22.2).1.Ver, (splitAtS p x22.2).1.Cuts, (splitAtS p x22.2).1.Groups.set x34.2.toNat x36.2⟩) ((x23.1, x23.2)) ?_ ?_ (Le.trans (le_pick [3, 3, 4, 0, 0, 0, 1] rfl) (le_dropeq 3 (by first | rfl | (rw [List.map_set]; rfl)) ⟨rfl, rfl, rfl, rfl, trivial⟩))
          · exact ⟨by omega, by omega, good_set hgd (by omega)⟩
          · omega
        · intro h26
          refine awp_skip ?_
          refine awp_own (by first | (simp only [TPlaces.ow, TPlaces.ocs, pick, List.eraseIdx_cons_zero, List.eraseIdx_cons_succ, List.set_cons_zero, List.set_cons_succ, List.cons_append, List.nil_append, List.getElem?_cons_zero, List.getElem?_cons_succ, List.append_nil, List.take_succ_cons, List.take_zero, List.drop_succ_cons, List.drop_zero]; exact rfl) | exact rfl) ?_
          refine awp_region ?_
          refine sq_plain rfl rfl rfl (w_move rfl (ev_tmp rfl)) ?_
          refine sq_plain rfl rfl rfl (w_subi rfl (ev_tmp rfl) ev_ci (by first | omega | ((try simp only [List.length_map, List.length_take, List.length_cons, List.length_nil, chunks_len, szR] at *); omega) | (have hc2 := hc; simp only [Bool.and_eq_true, Bool.or_eq_true, Bool.or_eq_false_iff, Bool.and_eq_false_iff, Bool.not_eq_true', Bool.not_eq_false', decide_eq_true_eq, decide_eq_false_iff_not, beq_iff_eq, bne_iff_ne, List.length_map, List.length_take] at hc2; omega))) ?_
          refine sq_plain rfl rfl rfl (w_assign rfl (ev_tmp rfl)) ?_
          refine sq_nil ?_
          refine round_end4 n cc p y (n - 1) (x22.1) (p) (y) ?_ ?_ (Le.trans (le_pick [5, 5, 5, 0, 0, 0, 1] rfl) (le_dropeq 3 (by first | rfl | (rw [List.map_set]; rfl)) ⟨rfl, rfl, rfl, rfl, trivial⟩))
          · exact ⟨by omega, by omega, hinv.2.2⟩
          · omega
    · refine eff_s rfl rfl rfl (opE_alloc rfl Tryz.zeroValue26 rfl) (fun a _ => (by first | exact invx_mk rfl | exact invx_mk (List.append_assoc _ _ _) | exact invx_all)) ?_
      intro b5 _
      refine bt_e1 ?_
      refine eff_s rfl rfl rfl (opE_call [3] rfl Tryz.call54 rfl (curKey_own _ _ hcode _ (by omega)) (evl_cons (ev_tmp rfl) evl_nil) rfl) (fun a _ => (by first | exact invx_mk rfl | exact invx_mk (List.append_assoc _ _ _) | exact invx_all)) ?_
      intro x22 ok22
      refine bt_e1 ?_
      refine eff_s rfl rfl rfl (opE_callB [] rfl Tryz.call53 rfl (splitAtS_own p x22.2 (by omega) (by omega)) rfl (evlb_cons (evb_lt (ev_tmp rfl) (lt_agg (lc_cons lt_refl (lc_cons (lt_arr (List.mem_of_getElem? (i := 1) rfl) le_refl_e) (lc_cons (lt_arr (List.mem_of_getElem? (i := 2) rfl) le_refl_e) lc_nil))))) (evlb_cons (evb (ev_tmp rfl)) evlb_nil)) (by first | exact flatO_nil | (intro _; exact flatO_nil) | (intro _; first | exact flat_is _ | exact flat_ik _ _ | exact flat_bool _ | exact flat_str _ | exact flat_nils) | (intro _; refine flat_tup ?_; (repeat (first | exact flatl_nil | (refine flatl_cons (by first | (first | exact flat_is _ | exact flat_ik _ _ | exact flat_bool _ | exact flat_str _ | exact flat_nils) | (refine flat_agg ?_; (repeat (first | exact flatl_nil | (refine flatl_cons (by first | exact flat_is _ | exact flat_ik _ _ | exact flat_bool _ | exact flat_str _ | exact flat_nils) ?_))))) ?_))); done) | (intro _; refine flat_agg ?_; (repeat (first | exact flatl_nil | (refine flatl_cons (by first | exact flat_is _ | exact flat_ik _ _ | exact flat_bool _ | exact flat_str _ | exact flat_nils) ?_))); done) | ((repeat (first | exact flatO_nil | (refine flatO_cons (flatO_box ?_) ?_; (repeat (first | exact flatl_nil | (refine flatl_cons (by first | exact flat_is _ | exact flat_ik _ _ | exact flat_bool _ | exact flat_str _ | exact flat_nils) ?_)))) | (refine flatO_cons (flatO_arr ?_) ?_; (repeat (first | exact flate_nil | (refine flate_map (fun _ => ?_); (first | exact TWrite.flat _ | exact TFeedItem.flat _ | exact TIdx.flat _ | exact TVer.flat _ | (repeat (first | exact flatl_nil | (refine flatl_cons (by first | exact flat_is _ | exact flat_ik _ _ | exact flat_bool _ | exact flat_str _ | exact flat_nils) ?_))))) | (refine flate_rep ?_; (first | exact TWrite.flat _ | exact TFeedItem.flat _ | exact TIdx.flat _ | exact TVer.flat _ | (repeat (first | exact flatl_nil | (refine flatl_cons (by first | exact flat_is _ | exact flat_ik _ _ | exact flat_bool _ | exact flat_str _ | exact flat_nils) ?_))))) | (refine flate_cons ?_ ?_; (first | exact TWrite.flat _ | exact TFeedItem.flat _ | exact TIdx.flat _ | exact TVer.flat _ | (repeat (first | exact flatl_nil | (refine flatl_cons (by first | exact flat_is _ | exact flat_ik _ _ | exact flat_bool _ | exact flat_str _ | exact flat_nils) ?_))))) | refine flate_app ?_ ?_))))); done) | (intro _; (repeat (first | exact flatO_nil | (refine flatO_cons (flatO_box ?_) ?_; (repeat (first | exact flatl_nil | (refine flatl_cons (by first | exact flat_is _ | exact flat_ik _ _ | exact flat_bool _ | exact flat_str _ | exact flat_nils) ?_)))) | (refine flatO_cons (flatO_arr ?_) ?_; (repeat (first | exact flate_nil | (refine flate_map (fun _ => ?_); (first | exact TWrite.flat _ | exact TFeedItem.flat _ | exact TIdx.flat _ | exact TVer.flat _ | (repeat (first | exact flatl_nil | (refine flatl_cons (by first | exact flat_is _ | exact flat_ik _ _ | exact flat_bool _ | exact flat_str _ | exact flat_nils) ?_))))) | (refine flate_rep ?_; (first | exact TWrite.flat _ | exact TFeedItem.flat _ | exact TIdx.flat _ | exact TVer.flat _ | (repeat (first | exact flatl_nil | (refine flatl_cons (by first | exact flat_is _ | exact flat_ik _ _ | exact flat_bool _ | exact flat_str _ | exact flat_nils) ?_))))) | (refine flate_cons ?_ ?_; (first | exact TWrite.flat _ | exact TFeedItem.flat _ | exact TIdx.flat _ | exact TVer.flat _ | (repeat (first | exact flatl_nil | (refine flatl_cons (by first | exact flat_is _ | exact flat_ik _ _ | exact flat_bool _ | exact flat_str _ | exact flat_nils) ?_))))) | refine flate_app ?_ ?_))))); done)) (by first | exact flatO_nil | (intro _; exact flatO_nil) | (intro _; first | exact flat_is _ | exact flat_ik _ _ | exact flat_bool _ | exact flat_str _ | exact flat_nils) | (intro _; refine flat_tup ?_; (repeat (first | exact flatl_nil | (refine flatl_cons (by first | (first | exact flat_is _ | exact flat_ik _ _ | exact flat_bool _ | exact flat_str _ | exact flat_nils) | (refine flat_agg ?_; (repeat (first | exact flatl_nil | (refine flatl_cons (by first | exact flat_is _ | exact flat_ik _ _ | exact flat_bool _ | exact flat_str _ | exact flat_nils) ?_))))) ?_))); done) | (intro _; refine flat_agg ?_; (repeat (first | exact flatl_nil | (refine flatl_cons (by first | exact flat_is _ | exact flat_ik _ _ | exact flat_bool _ | exact flat_str _ | exact flat_nils) ?_))); done) | ((repeat (first | exact flatO_nil | (refine flatO_cons (flatO_box ?_) ?_; (repeat (first | exact flatl_nil | (refine flatl_cons (by first | exact flat_is _ | exact flat_ik _ _ | exact flat_bool _ | exact flat_str _ | exact flat_nils) ?_)))) | (refine flatO_cons (flatO_arr ?_) ?_; (repeat (first | exact flate_nil | (refine flate_map (fun _ => ?_); (first | exact TWrite.flat _ | exact TFeedItem.flat _ | exact TIdx.flat _ | exact TVer.flat _ | (repeat (first | exact flatl_nil | (refine flatl_cons (by first | exact flat_is _ | exact flat_ik _ _ | exact flat_bool _ | exact flat_str _ | exact flat_nils) ?_))))) | (refine flate_rep ?_; (first | exact TWrite.flat _ | exact TFeedItem.flat _ | exact TIdx.flat _ | exact TVer.flat _ | (repeat (first | exact flatl_nil | (refine flatl_cons (by first | exact flat_is _ | exact flat_ik _ _ | exact flat_bool _ | exact flat_str _ | exact flat_nils) ?_))))) | (refine flate_cons ?_ ?_; (first | exact TWrite.flat _ | exact TFeedItem.flat _ | exact TIdx.flat _ | exact TVer.flat _ | (repeat (first | exact flatl_nil | (refine flatl_cons (by first | exact flat_is _ | exact flat_ik _ _ | exact flat_bool _ | exact flat_str _ | exact flat_nils) ?_))))) | refine flate_app ?_ ?_))))); done) | (intro _; (repeat (first | exact flatO_nil | (refine flatO_cons (flatO_box ?_) ?_; (repeat (first | exact flatl_nil | (refine flatl_cons (by first | exact flat_is _ | exact flat_ik _ _ | exact flat_bool _ | exact flat_str _ | exact flat_nils) ?_)))) | (refine flatO_cons (flatO_arr ?_) ?_; (repeat (first | exact flate_nil | (refine flate_map (fun _ => ?_); (first | exact TWrite.flat _ | exact TFeedItem.flat _ | exact TIdx.flat _ | exact TVer.flat _ | (repeat (first | exact flatl_nil | (refine flatl_cons (by first | exact flat_is _ | exact flat_ik _ _ | exact flat_bool _ | exact flat_str _ | exact flat_nils) ?_))))) | (refine flate_rep ?_; (first | exact TWrite.flat _ | exact TFeedItem.flat _ | exact TIdx.flat _ | exact TVer.flat _ | (repeat (first | exact flatl_nil | (refine flatl_cons (by first | exact flat_is _ | exact flat_ik _ _ | exact flat_bool _ | exact flat_str _ | exact flat_nils) ?_))))) | (refine flate_cons ?_ ?_; (first | exact TWrite.flat _ | exact TFeedItem.flat _ | exact TIdx.flat _ | exact TVer.flat _ | (repeat (first | exact flatl_nil | (refine flatl_cons (by first | exact flat_is _ | exact flat_ik _ _ | exact flat_bool _ | exact flat_str _ | exact flat_nils) ?_))))) | refine flate_app ?_ ?_))))); done)) (by first | exact flatO_nil | (intro _; exact flatO_nil) | (intro _; first | exact flat_is _ | exact flat_ik _ _ | exact flat_bool _ | exact flat_str _ | exact flat_nils) | (intro _; refine flat_tup ?_; (repeat (first | exact flatl_nil | (refine flatl_cons (by first | (first | exact flat_is _ | exact flat_ik _ _ | exact flat_bool _ | exact flat_str _ | exact flat_nils) | (refine flat_agg ?_; (repeat (first | exact flatl_nil | (refine flatl_cons (by first | exact flat_is _ | exact flat_ik _ _ | exact flat_bool _ | exact flat_str _ | exact flat_nils) ?_))))) ?_))); done) | (intro _; refine flat_agg ?_; (repeat (first | exact flatl_nil | (refine flatl_cons (by first | exact flat_is _ | exact flat_ik _ _ | exact flat_bool _ | exact flat_str _ | exact flat_nils) ?_))); done) | ((repeat (first | exact flatO_nil | (refine flatO_cons (flatO_box ?_) ?_; (repeat (first | exact flatl_nil | (refine flatl_cons (by first | exact flat_is _ | exact flat_ik _ _ | exact flat_bool _ | exact flat_str _ | exact flat_nils) ?_)))) | (refine flatO_cons (flatO_arr ?_) ?_; (repeat (first | exact flate_nil | (refine flate_map (fun _ => ?_); (first | exact TWrite.flat _ | exact TFeedItem.flat _ | exact TIdx.flat _ | exact TVer.flat _ | (repeat (first | exact flatl_nil | (refine flatl_cons (by first | exact flat_is _ | exact flat_ik _ _ | exact flat_bool _ | exact flat_str _ | exact flat_nils) ?_))))) | (refine flate_rep ?_; (first | exact TWrite.flat _ | exact TFeedItem.flat _ | exact TIdx.flat _ | exact TVer.flat _ | (repeat (first | exact flatl_nil | (refine flatl_cons (by first | exact flat_is _ | exact flat_ik _ _ | exact flat_bool _ | exact flat_str _ | exact flat_nils) ?_))))) | (refine flate_cons ?_ ?_; (first | exact TWrite.flat _ | exact TFeedItem.flat _ | exact TIdx.flat _ | exact TVer.flat _ | (repeat (first | exact flatl_nil | (refine flatl_cons (by first | exact flat_is _ | exact flat_ik _ _ | exact flat_bool _ | exact flat_str _ | exact flat_nils) ?_))))) | refine flate_app ?_ ?_))))); done) | (intro _; (repeat (first | exact flatO_nil | (refine flatO_cons (flatO_box ?_) ?_; (repeat (first | exact flatl_nil | (refine flatl_cons (by first | exact flat_is _ | exact flat_ik _ _ | exact flat_bool _ | exact flat_str _ | exact flat_nils) ?_)))) | (refine flatO_cons (flatO_arr ?_) ?_; (repeat (first | exact flate_nil | (refine flate_map (fun _ => ?_); (first | exact TWrite.flat _ | exact TFeedItem.flat _ | exact TIdx.flat _ | exact TVer.flat _ | (repeat (first | exact flatl_nil | (refine flatl_cons (by first | exact flat_is _ | exact flat_ik _ _ | exact flat_bool _ | exact flat_str _ | exact flat_nils) ?_))))) | (refine flate_rep ?_; (first | exact TWrite.flat _ | exact TFeedItem.flat _ | exact TIdx.flat _ | exact TVer.flat _ | (repeat (first | exact flatl_nil | (refine flatl_cons (by first | exact flat_is _ | exact flat_ik _ _ | exact flat_bool _ | exact flat_str _ | exact flat_nils) ?_))))) | (refine flate_cons ?_ ?_; (first | exact TWrite.flat _ | exact TFeedItem.flat _ | exact TIdx.flat _ | exact TVer.flat _ | (repeat (first | exact flatl_nil | (refine flatl_cons (by first | exact flat_is _ | exact flat_ik _ _ | exact flat_bool _ | exact flat_str _ | exact flat_nils) ?_))))) | refine flate_app ?_ ?_))))); done))) (fun a _ => (by first | exact invx_mk rfl | exact invx_mk (List.append_assoc _ _ _) | exact invx_all)) ?_
      intro x23 ok23
      refine bt_plain rfl rfl rfl (fun ext => w_move rfl (ev_tmp rfl)) ?_
      refine bt_plain rfl rfl rfl (fun ext => w_extract rfl (ev_tmp rfl) rfl) ?_
      refine bt_plain rfl rfl rfl (fun ext => w_extract rfl (ev_tmp rfl) rfl) ?_
      refine bt_e1 ?_
      refine eff_s0 rfl rfl rfl (opE_storeB0 4 rfl rfl (ev_tmp rfl) (ev_tmp rfl) (as_agg _) rfl Tryz.sizeOf26 rfl) (fun a _ => (by first | exact invx_mk rfl | exact invx_mk (List.append_assoc _ _ _) | exact invx_all)) ?_
      intro _ _
      refine bt_nil ?_
      refine sq_plain rfl rfl rfl (w_assign rfl (ev_tmp rfl)) ?_
      refine sq_nil ?_
      refine awp_seq ?_
      refine awp_own (by first | (simp only [TPlaces.ow, TPlaces.ocs, pick, List.eraseIdx_cons_zero, List.eraseIdx_cons_succ, List.set_cons_zero, List.set_cons_succ, List.cons_append, List.nil_append, List.getElem?_cons_zero, List.getElem?_cons_succ, List.append_nil, List.take_succ_cons, List.take_zero, List.drop_succ_cons, List.drop_zero]; exact rfl) | exact rfl) ?_
      refine awp_region ?_
      refine sq_plain rfl rfl rfl (w_move rfl (ev_tmp rfl)) ?_
      refine sq_nil ?_
      refine awp_cond (ev_tmp rfl) ?_ ?_
      · intro h26
        have hsz := splitAt_size p x22.2
        have hgd := (splitAt_ok (p := p) (key := x22.2) (by rw [splitAt_eq]; exact h26)).2.1
        rw [splitAt_eq] at hsz hgd
        have hgl := (good_facts hgd).2.2.2.1
        have hpl := places_lens hsz
        refine awp_seq ?_
        refine awp_own (by first | (simp only [TPlaces.ow, TPlaces.ocs, pick, List.eraseIdx_cons_zero, List.eraseIdx_cons_succ, List.set_cons_zero, List.set_cons_succ, List.cons_append, List.nil_append, List.getElem?_cons_zero, List.getElem?_cons_succ, List.append_nil, List.take_succ_cons, List.take_zero, List.drop_succ_cons, List.drop_zero]; exact rfl) | exact rfl) ?_
        refine awp_region ?_
        refine sq_plain rfl rfl rfl (w_loadA 4 rfl (ev_tmp rfl) rfl Tryz.isAgg26 Tryz.sizeOf26 rfl) ?_
        refine sq_storeB0 0 rfl rfl rfl (ev_tmp rfl) (ev_tmp rfl) (as_agg _) rfl Tryz.sizeOf26 rfl ?_
        refine sq_nil ?_
        refine awp_own (by first | (simp only [TPlaces.ow, TPlaces.ocs, pick, List.eraseIdx_cons_zero, List.eraseIdx_cons_succ, List.set_cons_zero, List.set_cons_succ, List.cons_append, List.nil_append, List.getElem?_cons_zero, List.getElem?_cons_succ, List.append_nil, List.take_succ_cons, List.take_zero, List.drop_succ_cons, List.drop_zero]; exact rfl) | exact rfl) ?_
        refine AWP.le (le_pick [0, 5, 5] rfl) ?_
        refine awp_region_mix _ [(0, false), (1, false), (2, false), (3, false), (4, false), (5, false), (7, false), (6, true), (8, true)] (by kernel_rfl) (by kernel_rfl) rfl (invx_take 3) ?_
        refine bc_plain rfl rfl rfl (fun ext => w_fldBn 2 rfl Tryz.underlying26 rfl Tryz.sizeOf24 (ev_tmp rfl) rfl) ?_
        refine bc_plain rfl rfl rfl (fun ext => w_loadB1 0 rfl (ev_tmp rfl) rfl Tryz.isAgg24 rfl) ?_
        refine bc_plain rfl rfl rfl (fun ext => w_move rfl (ev_tmp rfl)) ?_
        refine bc_plain rfl rfl rfl (fun ext => w_fldBn 2 rfl Tryz.underlying26 rfl Tryz.sizeOf24 (ev_tmp rfl) rfl) ?_
        refine bc_plain rfl rfl rfl (fun ext => w_loadB1 0 rfl (ev_tmp rfl) rfl Tryz.isAgg24 rfl) ?_
        refine bc_plain rfl rfl rfl (fun ext => w_alen 2 rfl Tryz.underlying24 (ev_tmp rfl) rfl) ?_
        refine bc_plain rfl rfl rfl (fun ext => w_move rfl (ev_tmp rfl)) ?_
        refine bc_eff rfl rfl rfl (opE_call [7] rfl Tryz.call30 rfl (curPick_own _ _ hcode _ _ (by simp only [List.length_map]; omega) (by omega)) (evl_cons (ev_tmp rfl) (evl_cons (ev_tmp rfl) evl_nil)) rfl) (fun a _ => (by first | exact invx_mk rfl | exact invx_mk (List.append_assoc _ _ _) | exact invx_all)) ?_
        intro x34 ok34
        refine bc_eff rfl rfl rfl (opE_call [7] rfl Tryz.call30 rfl (curPick_own _ _ hcode _ _ (by omega) (by omega)) (evl_cons (ev_tmp rfl) (evl_cons ev_ci evl_nil)) rfl) (fun a _ => (by first | exact invx_mk rfl | exact invx_mk (List.append_assoc _ _ _) | exact invx_all)) ?_
        intro x36 ok36
        refine bc_nil ?_
        refine sq_plain rfl rfl rfl (w_aidx 2 rfl Tryz.underlying24 Tryz.sizeOf3 (ev_tmp rfl) rfl (ev_tmp rfl) (by first | omega | ((try simp only [List.length_map, List.length_take, List.length_cons, List.length_nil, chunks_len, szR] at *); omega) | (have hc2 := hc; simp only [Bool.and_eq_true, Bool.or_eq_true, Bool.or_eq_false_iff, Bool.and_eq_false_iff, Bool.not_eq_true', Bool.not_eq_false', decide_eq_true_eq, decide_eq_false_iff_not, beq_iff_eq, bne_iff_ne, List.length_map, List.length_take] at hc2; omega)) (by first | omega | ((try simp only [List.length_map, List.length_take, List.length_cons, List.length_nil, chunks_len, szR] at *); omega) | (have hc2 := hc; simp only [Bool.and_eq_true, Bool.or_eq_true, Bool.or_eq_false_iff, Bool.and_eq_false_iff, Bool.not_eq_true', Bool.not_eq_false', decide_eq_true_eq, decide_eq_false_iff_not, beq_iff_eq, bne_iff_ne, List.length_map, List.length_take] at hc2; omega))) ?_
        refine sq_storeA 2 rfl rfl rfl (ev_tmp rfl) (ev_tmp rfl) (as_ik _ _) rfl Tryz.sizeOf3 rfl (by first | omega | ((try simp only [List.length_map, List.length_take, List.length_cons, List.length_nil, chunks_len, szR] at *); omega) | (have hc2 := hc; simp only [Bool.and_eq_true, Bool.or_eq_true, Bool.or_eq_false_iff, Bool.and_eq_false_iff, Bool.not_eq_true', Bool.not_eq_false', decide_eq_true_eq, decide_eq_false_iff_not, beq_iff_eq, bne_iff_ne, List.length_map, List.length_take] at hc2; omega)) ?_
        refine sq_nil ?_
        refine awp_own (by first | (simp only [TPlaces.ow, TPlaces.ocs, pick, List.eraseIdx_cons_zero, List.eraseIdx_cons_succ, List.set_cons_zero, List.set_cons_succ, List.cons_append, List.nil_append, List.getElem?_cons_zero, List.getElem?_cons_succ, List.append_nil, List.take_succ_cons, List.take_zero, List.drop_succ_cons, List.drop_zero]; exact rfl) | exact rfl) ?_
        refine awp_region ?_
        refine sq_plain rfl rfl rfl (w_move rfl (ev_tmp rfl)) ?_
        refine sq_plain rfl rfl rfl (w_subi rfl (ev_tmp rfl) ev_ci (by first | omega | ((try simp only [List.length_map, List.length_take, List.length_cons, List.length_nil, chunks_len, szR] at *); omega) | (have hc2 := hc; simp only [Bool.and_eq_true, Bool.or_eq_true, Bool.or_eq_false_iff, Bool.and_eq_false_iff, Bool.not_eq_true', Bool.not_eq_false', decide_eq_true_eq, decide_eq_false_iff_not, beq_iff_eq, bne_iff_ne, List.length_map, List.length_take] at hc2; omega))) ?_
        refine sq_plain rfl rfl rfl (w_assign rfl (ev_tmp rfl)) ?_
        refine sq_nil ?_
        refine round_end4 n cc p y (n - 1) (x36.1) (⟨(splitAtS p x22.2).1.Ver, (splitAtS p x22.2).1.Cuts, (splitAtS p x22.2).1.Groups.set x34.2.toNat x36.2⟩) ((x23.1, x23.2)) ?_ ?_ (Le.trans (le_pick [3, 3, 4, 0, 0, 0, 1] rfl) (le_dropeq 3 (by first | rfl | (rw [List.map_set]; rfl)) ⟨rfl, rfl, rfl, rfl, trivial⟩))
        · exact ⟨by omega, by omega, good_set hgd (by omega)⟩
        · omega
      · intro h26
        refine awp_skip ?_
        refine awp_own (by first | (simp only [TPlaces.ow, TPlaces.ocs, pick, List.eraseIdx_cons_zero, List.eraseIdx_cons_succ, List.set_cons_zero, List.set_cons_succ, List.cons_append, List.nil_append, List.getElem?_cons_zero, List.getElem?_cons_succ, List.append_nil, List.take_succ_cons, List.take_zero, List.drop_succ_cons, List.drop_zero]; exact rfl) | exact rfl) ?_
        refine awp_region ?_
        refine sq_plain rfl rfl rfl (w_move rfl (ev_tmp rfl)) ?_
        refine sq_plain rfl rfl rfl (w_subi rfl (ev_tmp rfl) ev_ci (by first | omega | ((try simp only [List.length_map, List.length_take, List.length_cons, List.length_nil, chunks_len, szR] at *); omega) | (have hc2 := hc; simp only [Bool.and_eq_true, Bool.or_eq_true, Bool.or_eq_false_iff, Bool.and_eq_false_iff, Bool.not_eq_true', Bool.not_eq_false', decide_eq_true_eq, decide_eq_false_iff_not, beq_iff_eq, bne_iff_ne, List.length_map, List.length_take] at hc2; omega))) ?_
        refine sq_plain rfl rfl rfl (w_assign rfl (ev_tmp rfl)) ?_
        refine sq_nil ?_
        refine round_end4 n cc p y (n - 1) (x22.1) (p) (y) ?_ ?_ (Le.trans (le_pick [4, 5, 5, 0, 0, 0, 1] rfl) (le_dropeq 3 (by first | rfl | (rw [List.map_set]; rfl)) ⟨rfl, rfl, rfl, rfl, trivial⟩))
        · exact ⟨by omega, by omega, hinv.2.2⟩
        · omega
  · intro h16
    have k16 := of_decide_eq_false h16; try simp only [List.length_map] at k16
    refine awp_exit ?_
    refine awp_seq ?_
    refine awp_region ?_
    refine sq_plain rfl rfl rfl (w_loadA 0 rfl (ev_tmp rfl) rfl Tryz.isAgg26 Tryz.sizeOf26 rfl) ?_
    refine sq_storeB0 4 rfl rfl rfl (ev_tmp rfl) (ev_tmp rfl) (as_agg _) rfl Tryz.sizeOf26 rfl ?_
    refine sq_nil ?_
    refine awp_ret ?_
    (refine retG [3, 1, 1] ((cc, p, y)) ?_ rfl (by first | (dsimp only; rfl) | rfl) (resR rfl (rv_cell (ys := _) 4 rfl rfl Tryz.isAgg26 Tryz.sizeOf26 rfl)); exact ⟨show cc.p ≤ _ by omega, hinv.2.2⟩)
theorem curBentPlaces_own (b : Nat) (code : List Int) (hcode : ByteL code) (c : TCur) (hp : c.p ≤ 1500000) : GSpec Tryz.prog 15 [AV.ptr b 0] [.box b 45 (curC code c)] (fun x : TCur × TPlaces × Value × Value => x.1.p ≤ c.p + 50 ∧ x.2.1.size ≤ 600) (fun x => .box b 45 (curC code x.1) :: TPlaces.ow x.2.1 x.2.2) (fun x => AV.agg (TPlaces.ocs x.2.1 x.2.2)) := by
  refine gspec_of_awp Tryz.func15 rfl Tryz.ntmps15 rfl ?_
  refine awp_seq ?_
  refine awp_region ?_
  refine sq_alloc rfl rfl rfl rfl Tryz.zeroValue26 rfl ?_
  intro b2
  refine sq_nil ?_
  refine awp_seq ?_
  refine awp_region ?_
  refine sq_plain rfl rfl rfl (w_move rfl (ev_tmp rfl)) ?_
  refine sq_callG [1] rfl rfl rfl rfl Tryz.call33 rfl (curPlaces_own _ _ hcode _ (by omega)) (evl_cons (ev_tmp rfl) evl_nil) rfl ?_
  intro x5 ok5
  have hs5 := good_size ok5.2
  have hg5 := (good_facts ok5.2).2.2.2.1
  have hl5 := places_lens hs5
  unfold TPlaces.size at hs5
  refine sq_alloc rfl rfl rfl rfl Tryz.zeroValue26 rfl ?_
  intro b3
  refine sq_storeB0 0 rfl rfl rfl (ev_tmp rfl) (ev_tmp rfl) (as_agg _) rfl Tryz.sizeOf26 rfl ?_
  refine sq_nil ?_
  refine awp_seq ?_
  refine awp_seq ?_
  refine awp_own (by first | (simp only [TPlaces.ow, TPlaces.ocs, pick, List.eraseIdx_cons_zero, List.eraseIdx_cons_succ, List.set_cons_zero, List.set_cons_succ, List.cons_append, List.nil_append, List.getElem?_cons_zero, List.getElem?_cons_succ, List.append_nil, List.take_succ_cons, List.take_zero, List.drop_succ_cons, List.drop_zero]; exact rfl) | exact rfl) ?_
  refine awp_region ?_
  refine sq_plain rfl rfl rfl (w_move rfl (ev_tmp rfl)) ?_
  refine sq_callG [1] rfl rfl rfl rfl Tryz.call30 rfl (curPick_own _ _ hcode _ _ (by omega) (by omega)) (evl_cons (ev_tmp rfl) (evl_cons ev_ci evl_nil)) rfl ?_
  intro x7 ok7
  refine sq_nil ?_
  refine awp_block ?_
  refine awp_seq ?_
  refine awp_region ?_
  refine sq_plain rfl rfl rfl (w_eql rfl (ev_tmp rfl) ev_ci) ?_
  refine sq_plain rfl rfl rfl (w_assign rfl (ev_tmp rfl)) ?_
  refine sq_nil ?_
  refine awp_cond (ev_tmp rfl) ?_ ?_
  · intro h8
    have k8 := eq_of_beqt h8; try simp only [List.length_map] at k8
    refine awp_region ?_
    refine sq_plain rfl rfl rfl (w_move rfl (ev_tmp rfl)) ?_
    refine sq_plain rfl rfl rfl (w_bslice rfl Tryz.underlying24 Tryz.sizeOf3 Tryz.zeroValue3 rfl rfl rfl rfl (bp_cons ev_ci (as_ik _ _) (bp_cons ev_ci (as_ik _ _) (bp_cons ev_ci (as_ik _ _) bp_nil))) rfl rfl) ?_
    refine sq_callG [0] rfl rfl rfl rfl Tryz.call38 rfl (curAmong_own _ _ hcode _ ([(-1), (50), (51)] : List Int) (by decide) (by omega)) (evl_cons (ev_tmp rfl) (evl_cons (ev_tmp rfl) evl_nil)) rfl ?_
    intro x12 ok12
    refine sq_plain rfl rfl rfl (w_fldBn 0 rfl Tryz.underlying26 rfl Tryz.sizeOf3 (ev_tmp rfl) rfl) ?_
    refine sq_storeB1 1 rfl rfl rfl (ev_tmp rfl) (ev_tmp rfl) (as_ik _ _) rfl Tryz.sizeOf3 rfl ?_
    refine sq_nil ?_
    refine awp_seq ?_
    refine awp_own (by first | (simp only [TPlaces.ow, TPlaces.ocs, pick, List.eraseIdx_cons_zero, List.eraseIdx_cons_succ, List.set_cons_zero, List.set_cons_succ, List.cons_append, List.nil_append, List.getElem?_cons_zero, List.getElem?_cons_succ, List.append_nil, List.take_succ_cons, List.take_zero, List.drop_succ_cons, List.drop_zero]; exact rfl) | exact rfl) ?_
    refine awp_region ?_
    refine sq_plain rfl rfl rfl (w_loadA 1 rfl (ev_tmp rfl) rfl Tryz.isAgg26 Tryz.sizeOf26 rfl) ?_
    refine sq_storeB0 4 rfl rfl rfl (ev_tmp rfl) (ev_tmp rfl) (as_agg _) rfl Tryz.sizeOf26 rfl ?_
    refine sq_nil ?_
    refine awp_ret ?_
    (refine retG [0, 1, 1] ((x12.1, ⟨x12.2, x5.2.1.Cuts, x5.2.1.Groups⟩, x5.2.2.1, x5.2.2.2)) ?_ rfl (by first | (dsimp only; rfl) | (dsimp only [TPlaces.ow]; rw [List.map_append]; rfl) | (dsimp only [TPlaces.ow]; rw [List.map_set]; rfl)) (resR rfl (rv_cell (ys := _) 4 rfl rfl Tryz.isAgg26 Tryz.sizeOf26 rfl)); (dsimp only [TPlaces.size]; first | exact ⟨by omega, by omega⟩ | (rw [sizeL_snoc]; exact ⟨by omega, by omega⟩) | (rw [List.length_append]; exact ⟨by omega, by simp only [List.length_cons, List.length_nil]; omega⟩) | (rw [List.length_set]; exact ⟨by omega, by omega⟩) | exact ⟨by omega, by simp [sizeL]⟩))
  · intro h8
    have k8 := ne_of_beqf h8; try simp only [List.length_map] at k8
    refine awp_seq ?_
    refine awp_region ?_
    refine sq_plain rfl rfl rfl (w_eql rfl (ev_tmp rfl) ev_ci) ?_
    refine sq_plain rfl rfl rfl (w_assign rfl (ev_tmp rfl)) ?_
    refine sq_nil ?_
    refine awp_cond (ev_tmp rfl) ?_ ?_
    · intro h14
      have k14 := eq_of_beqt h14; try simp only [List.length_map] at k14
      refine AWP.le (le_pick [1, 3, 2] rfl) ?_
      refine awp_region_mix _ [(0, false), (1, false), (2, false), (3, false), (4, true), (5, false), (6, true)] (by kernel_rfl) (by kernel_rfl) rfl (invx_take 3) ?_
      refine bc_plain rfl rfl rfl (fun ext => w_fldBn 1 rfl Tryz.underlying26 rfl Tryz.sizeOf23 (ev_tmp rfl) rfl) ?_
      refine bc_plain rfl rfl rfl (fun ext => w_loadB1 0 rfl (ev_tmp rfl) rfl Tryz.isAgg23 rfl) ?_
      refine bc_plain rfl rfl rfl (fun ext => w_move rfl (ev_tmp rfl)) ?_
      refine bc_plain rfl rfl rfl (fun ext => w_bslice rfl Tryz.underlying23 Tryz.sizeOf9 Tryz.zeroValue9 rfl rfl rfl rfl (bp_cons (ev_cs' (l := []) rfl) (as_str _) (bp_cons (ev_cs' (l := [65]) rfl) (as_str _) (bp_cons (ev_cs' (l := [97]) rfl) (as_str _) (bp_cons (ev_cs' (l := [122, 122]) rfl) (as_str _) bp_nil)))) rfl rfl) ?_
      refine bc_eff rfl rfl rfl (opE_call [3] rfl Tryz.call16 rfl (curOf_own _ _ hcode _ ([[], [65], [97], [122, 122]] : List Str) (by decide) (by omega)) (evl_cons (ev_tmp rfl) (evl_cons (ev_tmp rfl) evl_nil)) rfl) (fun a _ => (by first | exact invx_mk rfl | exact invx_mk (List.append_assoc _ _ _) | exact invx_all)) ?_
      intro x20 ok20
      refine bc_plain rfl rfl rfl (fun ext => w_bslice rfl Tryz.underlying23 Tryz.sizeOf9 Tryz.zeroValue9 rfl rfl rfl rfl (bp_cons (ev_tmp rfl) (as_str _) bp_nil) rfl rfl) ?_
      refine bc_eff rfl rfl rfl (opE_append (by' := 16) 3 rfl Tryz.underlying23 Tryz.type9 rfl rfl rfl rfl rfl rfl (ev_tmp rfl) (ev_tmp rfl) rfl (by first | omega | ((try simp only [List.length_map, List.length_take, List.length_cons, List.length_nil, chunks_len, szR] at *); omega) | (have hc2 := hc; simp only [Bool.and_eq_true, Bool.or_eq_true, Bool.or_eq_false_iff, Bool.and_eq_false_iff, Bool.not_eq_true', Bool.not_eq_false', decide_eq_true_eq, decide_eq_false_iff_not, beq_iff_eq, bne_iff_ne, List.length_map, List.length_take] at hc2; omega))) (fun a _ => (by first | exact invx_mk rfl | exact invx_mk (List.append_assoc _ _ _) | exact invx_all)) ?_
      intro v22_1 _
      refine bc_nil ?_
      refine sq_plain rfl rfl rfl (w_fldBn 1 rfl Tryz.underlying26 rfl Tryz.sizeOf23 (ev_tmp rfl) rfl) ?_
      refine sq_fact 3 rfl fun one_v22_1 => ?_
      refine sq_storeB1 0 rfl rfl rfl (ev_tmp rfl) (ev_tmp rfl) (as_is one_v22_1) rfl Tryz.sizeOf23 rfl ?_
      refine sq_nil ?_
      refine awp_seq ?_
      refine awp_own (by first | (simp only [TPlaces.ow, TPlaces.ocs, pick, List.eraseIdx_cons_zero, List.eraseIdx_cons_succ, List.set_cons_zero, List.set_cons_succ, List.cons_append, List.nil_append, List.getElem?_cons_zero, List.getElem?_cons_succ, List.append_nil, List.take_succ_cons, List.take_zero, List.drop_succ_cons, List.drop_zero]; exact rfl) | exact rfl) ?_
      refine awp_region ?_
      refine sq_plain rfl rfl rfl (w_loadA 0 rfl (ev_tmp rfl) rfl Tryz.isAgg26 Tryz.sizeOf26 rfl) ?_
      refine sq_storeB0 1 rfl rfl rfl (ev_tmp rfl) (ev_tmp rfl) (as_agg _) rfl Tryz.sizeOf26 rfl ?_
      refine sq_nil ?_
      refine awp_ret ?_
      (refine retG [4, 3, 2] ((x20.1, ⟨x5.2.1.Ver, x5.2.1.Cuts ++ [x20.2], x5.2.1.Groups⟩, v22_1, x5.2.2.2)) ?_ rfl (by first | (dsimp only; rfl) | (dsimp only [TPlaces.ow]; rw [List.map_append]; rfl) | (dsimp only [TPlaces.ow]; rw [List.map_set]; rfl)) (resR rfl (rv_cell (ys := _) 1 rfl rfl Tryz.isAgg26 Tryz.sizeOf26 rfl)); (dsimp only [TPlaces.size]; first | exact ⟨by omega, by omega⟩ | (rw [sizeL_snoc]; exact ⟨by omega, by omega⟩) | (rw [List.length_append]; exact ⟨by omega, by simp only [List.length_cons, List.length_nil]; omega⟩) | (rw [List.length_set]; exact ⟨by omega, by omega⟩) | exact ⟨by omega, by simp [sizeL]⟩))
    · intro h14
      have k14 := ne_of_beqf h14; try simp only [List.length_map] at k14
      refine awp_seq ?_
      refine awp_region ?_
      refine sq_plain rfl rfl rfl (w_eql rfl (ev_tmp rfl) ev_ci) ?_
      refine sq_plain rfl rfl rfl (w_assign rfl (ev_tmp rfl)) ?_
      refine sq_nil ?_
      refine awp_cond (ev_tmp rfl) ?_ ?_
      · intro h24
        have k24 := eq_of_beqt h24; try simp only [List.length_map] at k24
        refine AWP.le (le_pick [1, 3, 1] rfl) ?_
        refine awp_region_mix _ [(0, false), (1, false), (2, false), (3, true), (4, false), (5, false), (6, true)] (by kernel_rfl) (by kernel_rfl) rfl (invx_take 3) ?_
        refine bc_plain rfl rfl rfl (fun ext => w_fldBn 2 rfl Tryz.underlying26 rfl Tryz.sizeOf24 (ev_tmp rfl) rfl) ?_
        refine bc_plain rfl rfl rfl (fun ext => w_loadB1 0 rfl (ev_tmp rfl) rfl Tryz.isAgg24 rfl) ?_
        refine bc_plain rfl rfl rfl (fun ext => w_move rfl (ev_tmp rfl)) ?_
        refine bc_eff rfl rfl rfl (opE_call [3] rfl Tryz.call30 rfl (curPick_own _ _ hcode _ _ (by omega) (by omega)) (evl_cons (ev_tmp rfl) (evl_cons ev_ci evl_nil)) rfl) (fun a _ => (by first | exact invx_mk rfl | exact invx_mk (List.append_assoc _ _ _) | exact invx_all)) ?_
        intro x29 ok29
        refine bc_plain rfl rfl rfl (fun ext => w_subi rfl (ev_tmp rfl) ev_ci (by first | omega | ((try simp only [List.length_map, List.length_take, List.length_cons, List.length_nil, chunks_len, szR] at *); omega) | (have hc2 := hc; simp only [Bool.and_eq_true, Bool.or_eq_true, Bool.or_eq_false_iff, Bool.and_eq_false_iff, Bool.not_eq_true', Bool.not_eq_false', decide_eq_true_eq, decide_eq_false_iff_not, beq_iff_eq, bne_iff_ne, List.length_map, List.length_take] at hc2; omega))) ?_
        refine bc_plain rfl rfl rfl (fun ext => w_bslice rfl Tryz.underlying24 Tryz.sizeOf3 Tryz.zeroValue3 rfl rfl rfl rfl (bp_cons (ev_tmp rfl) (as_ik _ _) bp_nil) rfl rfl) ?_
        refine bc_eff rfl rfl rfl (opE_append (by' := 8) 3 rfl Tryz.underlying24 Tryz.type3 rfl rfl rfl rfl rfl rfl (ev_tmp rfl) (ev_tmp rfl) rfl (by first | omega | ((try simp only [List.length_map, List.length_take, List.length_cons, List.length_nil, chunks_len, szR] at *); omega) | (have hc2 := hc; simp only [Bool.and_eq_true, Bool.or_eq_true, Bool.or_eq_false_iff, Bool.and_eq_false_iff, Bool.not_eq_true', Bool.not_eq_false', decide_eq_true_eq, decide_eq_false_iff_not, beq_iff_eq, bne_iff_ne, List.length_map, List.length_take] at hc2; omega))) (fun a _ => (by first | exact invx_mk rfl | exact invx_mk (List.append_assoc _ _ _) | exact invx_all)) ?_
        intro v32_2 _
        refine bc_nil ?_
        refine sq_plain rfl rfl rfl (w_fldBn 2 rfl Tryz.underlying26 rfl Tryz.sizeOf24 (ev_tmp rfl) rfl) ?_
        refine sq_fact 3 rfl fun one_v32_2 => ?_
        refine sq_storeB1 0 rfl rfl rfl (ev_tmp rfl) (ev_tmp rfl) (as_is one_v32_2) rfl Tryz.sizeOf24 rfl ?_
        refine sq_nil ?_
        refine awp_seq ?_
        refine awp_own (by first | (simp only [TPlaces.ow, TPlaces.ocs, pick, List.eraseIdx_cons_zero, List.eraseIdx_cons_succ, List.set_cons_zero, List.set_cons_succ, List.cons_append, List.nil_append, List.getElem?_cons_zero, List.getElem?_cons_succ, List.append_nil, List.take_succ_cons, List.take_zero, List.drop_succ_cons, List.drop_zero]; exact rfl) | exact rfl) ?_
        refine awp_region ?_
        refine sq_plain rfl rfl rfl (w_loadA 0 rfl (ev_tmp rfl) rfl Tryz.isAgg26 Tryz.sizeOf26 rfl) ?_
        refine sq_storeB0 1 rfl rfl rfl (ev_tmp rfl) (ev_tmp rfl) (as_agg _) rfl Tryz.sizeOf26 rfl ?_
        refine sq_nil ?_
        refine awp_ret ?_
        (refine retG [4, 2, 2] ((x29.1, ⟨x5.2.1.Ver, x5.2.1.Cuts, x5.2.1.Groups ++ [x29.2 - 1]⟩, x5.2.2.1, v32_2)) ?_ rfl (by first | (dsimp only; rfl) | (dsimp only [TPlaces.ow]; rw [List.map_append]; rfl) | (dsimp only [TPlaces.ow]; rw [List.map_set]; rfl)) (resR rfl (rv_cell (ys := _) 1 rfl rfl Tryz.isAgg26 Tryz.sizeOf26 rfl)); (dsimp only [TPlaces.size]; first | exact ⟨by omega, by omega⟩ | (rw [sizeL_snoc]; exact ⟨by omega, by omega⟩) | (rw [List.length_append]; exact ⟨by omega, by simp only [List.length_cons, List.length_nil]; omega⟩) | (rw [List.length_set]; exact ⟨by omega, by omega⟩) | exact ⟨by omega, by simp [sizeL]⟩))
      · intro h24
        have k24 := ne_of_beqf h24; try simp only [List.length_map] at k24
        refine awp_seq ?_
        refine awp_region ?_
        refine sq_plain rfl rfl rfl (w_eql rfl (ev_tmp rfl) ev_ci) ?_
        refine sq_plain rfl rfl rfl (w_assign rfl (ev_tmp rfl)) ?_
        refine sq_nil ?_
        refine awp_cond (ev_tmp rfl) ?_ ?_
        · intro h34
          have k34 := eq_of_beqt h34; try simp only [List.length_map] at k34
          refine AWP.le (le_pick [1, 3, 1, 1] rfl) ?_
          refine awp_region_mix _ [(0, false), (1, false), (2, false), (3, false), (4, true)] (by kernel_rfl) (by kernel_rfl) rfl (invx_take 4) ?_
          refine bc_plain rfl rfl rfl (fun ext => w_fldBn 2 rfl Tryz.underlying26 rfl Tryz.sizeOf24 (ev_tmp rfl) rfl) ?_
          refine bc_plain rfl rfl rfl (fun ext => w_loadB1 0 rfl (ev_tmp rfl) rfl Tryz.isAgg24 rfl) ?_
          refine bc_plain rfl rfl rfl (fun ext => w_move rfl (ev_tmp rfl)) ?_
          refine bc_plain rfl rfl rfl (fun ext => w_bslice rfl Tryz.underlying24 Tryz.sizeOf3 Tryz.zeroValue3 rfl rfl rfl rfl (bp_cons ev_ci (as_ik _ _) (bp_cons ev_ci (as_ik _ _) bp_nil)) rfl rfl) ?_
          refine bc_eff rfl rfl rfl (opE_call [4] rfl Tryz.call38 rfl (curAmong_own _ _ hcode _ ([(-1), (4)] : List Int) (by decide) (by omega)) (evl_cons (ev_tmp rfl) (evl_cons (ev_tmp rfl) evl_nil)) rfl) (fun a _ => (by first | exact invx_mk rfl | exact invx_mk (List.append_assoc _ _ _) | exact invx_all)) ?_
          intro x40 ok40
          refine bc_nil ?_
          refine sq_plain rfl rfl rfl (w_aidx 3 rfl Tryz.underlying24 Tryz.sizeOf3 (ev_tmp rfl) rfl ev_ci (by first | omega | ((try simp only [List.length_map, List.length_take, List.length_cons, List.length_nil, chunks_len, szR] at *); omega) | (have hc2 := hc; simp only [Bool.and_eq_true, Bool.or_eq_true, Bool.or_eq_false_iff, Bool.and_eq_false_iff, Bool.not_eq_true', Bool.not_eq_false', decide_eq_true_eq, decide_eq_false_iff_not, beq_iff_eq, bne_iff_ne, List.length_map, List.length_take] at hc2; omega)) (by first | omega | ((try simp only [List.length_map, List.length_take, List.length_cons, List.length_nil, chunks_len, szR] at *); omega) | (have hc2 := hc; simp only [Bool.and_eq_true, Bool.or_eq_true, Bool.or_eq_false_iff, Bool.and_eq_false_iff, Bool.not_eq_true', Bool.not_eq_false', decide_eq_true_eq, decide_eq_false_iff_not, beq_iff_eq, bne_iff_ne, List.length_map, List.length_take] at hc2; omega))) ?_
          refine sq_storeA 3 rfl rfl rfl (ev_tmp rfl) (ev_tmp rfl) (as_ik _ _) rfl Tryz.sizeOf3 rfl (by first | omega | ((try simp only [List.length_map, List.length_take, List.length_cons, List.length_nil, chunks_len, szR] at *); omega) | (have hc2 := hc; simp only [Bool.and_eq_true, Bool.or_eq_true, Bool.or_eq_false_iff, Bool.and_eq_false_iff, Bool.not_eq_true', Bool.not_eq_false', decide_eq_true_eq, decide_eq_false_iff_not, beq_iff_eq, bne_iff_ne, List.length_map, List.length_take] at hc2; omega)) ?_
          refine sq_nil ?_
          refine awp_seq ?_
          refine awp_own (by first | (simp only [TPlaces.ow, TPlaces.ocs, pick, List.eraseIdx_cons_zero, List.eraseIdx_cons_succ, List.set_cons_zero, List.set_cons_succ, List.cons_append, List.nil_append, List.getElem?_cons_zero, List.getElem?_cons_succ, List.append_nil, List.take_succ_cons, List.take_zero, List.drop_succ_cons, List.drop_zero]; exact rfl) | exact rfl) ?_
          refine awp_region ?_
          refine sq_plain rfl rfl rfl (w_loadA 0 rfl (ev_tmp rfl) rfl Tryz.isAgg26 Tryz.sizeOf26 rfl) ?_
          refine sq_storeB0 1 rfl rfl rfl (ev_tmp rfl) (ev_tmp rfl) (as_agg _) rfl Tryz.sizeOf26 rfl ?_
          refine sq_nil ?_
          refine awp_ret ?_
          (refine retG [4, 2, 2] ((x40.1, ⟨x5.2.1.Ver, x5.2.1.Cuts, x5.2.1.Groups.set 0 x40.2⟩, x5.2.2.1, x5.2.2.2)) ?_ rfl (by first | (dsimp only; rfl) | (dsimp only [TPlaces.ow]; rw [List.map_append]; rfl) | (dsimp only [TPlaces.ow]; rw [List.map_set]; rfl)) (resR rfl (rv_cell (ys := _) 1 rfl rfl Tryz.isAgg26 Tryz.sizeOf26 rfl)); (dsimp only [TPlaces.size]; first | exact ⟨by omega, by omega⟩ | (rw [sizeL_snoc]; exact ⟨by omega, by omega⟩) | (rw [List.length_append]; exact ⟨by omega, by simp only [List.length_cons, List.length_nil]; omega⟩) | (rw [List.length_set]; exact ⟨by omega, by omega⟩) | exact ⟨by omega, by simp [sizeL]⟩))
        · intro h34
          have k34 := ne_of_beqf h34; try simp only [List.length_map] at k34
          refine awp_seq ?_
          refine awp_region ?_
          refine sq_plain rfl rfl rfl (w_eql rfl (ev_tmp rfl) ev_ci) ?_
          refine sq_plain rfl rfl rfl (w_assign rfl (ev_tmp rfl)) ?_
          refine sq_nil ?_
          refine awp_cond (ev_tmp rfl) ?_ ?_
          · intro h42
            have k42 := eq_of_beqt h42; try simp only [List.length_map] at k42
            refine awp_region ?_
            refine sq_plain rfl rfl rfl (w_build (places := #[(0, 1), (1, 1), (2, 1)]) rfl Tryz.underlying26 Tryz.zeroValue26 (fun w => by kernel_rfl) rfl bp_nil rfl) ?_
            refine sq_storeB0 1 rfl rfl rfl (ev_tmp rfl) (ev_tmp rfl) (as_agg _) rfl Tryz.sizeOf26 rfl ?_
            refine sq_nil ?_
            refine awp_seq ?_
            refine awp_own (by first | (simp only [TPlaces.ow, TPlaces.ocs, pick, List.eraseIdx_cons_zero, List.eraseIdx_cons_succ, List.set_cons_zero, List.set_cons_succ, List.cons_append, List.nil_append, List.getElem?_cons_zero, List.getElem?_cons_succ, List.append_nil, List.take_succ_cons, List.take_zero, List.drop_succ_cons, List.drop_zero]; exact rfl) | exact rfl) ?_
            refine awp_region ?_
            refine sq_plain rfl rfl rfl (w_loadA 1 rfl (ev_tmp rfl) rfl Tryz.isAgg26 Tryz.sizeOf26 rfl) ?_
            refine sq_storeB0 4 rfl rfl rfl (ev_tmp rfl) (ev_tmp rfl) (as_agg _) rfl Tryz.sizeOf26 rfl ?_
            refine sq_nil ?_
            refine awp_ret ?_
            refine retG_nil 9 1 ?_
            refine retG_nil 3 1 ?_
            (refine retG [2, 1, 0] ((x7.1, ⟨0, [], []⟩, (Value.slice none 0 0), (Value.slice none 0 0))) ?_ rfl (by first | (dsimp only; rfl) | (dsimp only [TPlaces.ow]; rw [List.map_append]; rfl) | (dsimp only [TPlaces.ow]; rw [List.map_set]; rfl)) (resR rfl (rv_cell (ys := _) 6 rfl rfl Tryz.isAgg26 Tryz.sizeOf26 rfl)); (dsimp only [TPlaces.size]; first | exact ⟨by omega, by omega⟩ | (rw [sizeL_snoc]; exact ⟨by omega, by omega⟩) | (rw [List.length_append]; exact ⟨by omega, by simp only [List.length_cons, List.length_nil]; omega⟩) | (rw [List.length_set]; exact ⟨by omega, by omega⟩) | exact ⟨by omega, by simp [sizeL]⟩))
          · intro h42
            have k42 := ne_of_beqf h42; try simp only [List.length_map] at k42
            refine awp_skip ?_
            refine awp_seq ?_
            refine awp_own (by first | (simp only [TPlaces.ow, TPlaces.ocs, pick, List.eraseIdx_cons_zero, List.eraseIdx_cons_succ, List.set_cons_zero, List.set_cons_succ, List.cons_append, List.nil_append, List.getElem?_cons_zero, List.getElem?_cons_succ, List.append_nil, List.take_succ_cons, List.take_zero, List.drop_succ_cons, List.drop_zero]; exact rfl) | exact rfl) ?_
            refine awp_region ?_
            refine sq_plain rfl rfl rfl (w_loadA 1 rfl (ev_tmp rfl) rfl Tryz.isAgg26 Tryz.sizeOf26 rfl) ?_
            refine sq_storeB0 4 rfl rfl rfl (ev_tmp rfl) (ev_tmp rfl) (as_agg _) rfl Tryz.sizeOf26 rfl ?_
            refine sq_nil ?_
            refine awp_ret ?_
            (refine retG [0, 1, 1] ((x7.1, ⟨x5.2.1.Ver, x5.2.1.Cuts, x5.2.1.Groups⟩, x5.2.2.1, x5.2.2.2)) ?_ rfl (by first | (dsimp only; rfl) | (dsimp only [TPlaces.ow]; rw [List.map_append]; rfl) | (dsimp only [TPlaces.ow]; rw [List.map_set]; rfl)) (resR rfl (rv_cell (ys := _) 4 rfl rfl Tryz.isAgg26 Tryz.sizeOf26 rfl)); (dsimp only [TPlaces.size]; first | exact ⟨by omega, by omega⟩ | (rw [sizeL_snoc]; exact ⟨by omega, by omega⟩) | (rw [List.length_append]; exact ⟨by omega, by simp only [List.length_cons, List.length_nil]; omega⟩) | (rw [List.length_set]; exact ⟨by omega, by omega⟩) | exact ⟨by omega, by simp [sizeL]⟩))
theorem drawRangeOf_own (code : List Int) (hcode : ByteL code) : GSpec Tryz.prog 4 [bytesI code] [] (fun x : TPlaces × Str => x.1.size ≤ 600 ∧ x.2.length ≤ 64) (fun x => []) (fun x => AV.tup [AV.agg x.1.cs, AV.str x.2]) := by
  refine gspec_of_awp Tryz.func4 rfl Tryz.ntmps4 rfl ?_
  refine awp_seq ?_
  refine awp_region ?_
  refine sq_alloc rfl rfl rfl rfl Tryz.zeroValue26 rfl ?_
  intro b2
  refine sq_plain rfl rfl rfl (w_assign rfl (ev_cs' (l := []) rfl)) ?_
  refine sq_nil ?_
  refine awp_seq ?_
  refine awp_region ?_
  refine sq_plain rfl rfl rfl (w_move rfl (ev_tmp rfl)) ?_
  refine sq_plain rfl rfl rfl (w_build (places := #[(0, 1), (1, 1), (2, 1)]) rfl Tryz.underlying45 Tryz.zeroValue45 (fun w => by kernel_rfl) rfl (bp_cons (ev_tmp rfl) (as_list _ _) bp_nil) rfl) ?_
  refine sq_box rfl rfl rfl rfl (ev_tmp rfl) ?_
  intro b8
  refine sq_plain rfl rfl rfl (w_assign rfl (ev_tmp rfl)) ?_
  refine sq_nil ?_
  refine awp_seq ?_
  refine awp_region ?_
  refine sq_plain rfl rfl rfl (w_move rfl (ev_tmp rfl)) ?_
  refine sq_callG [0] rfl rfl rfl rfl Tryz.call15 rfl (curBentPlaces_own _ _ hcode ⟨0, 0⟩ (by decide)) (evl_cons (ev_tmp rfl) evl_nil) rfl ?_
  intro x10 ok10
  have hp10 : x10.1.p ≤ 50 := ok10.1
  refine sq_le (le_sealD [1, 1] 10 rfl rfl (lt_agg (lc_cons lt_refl (lc_cons (lt_arr (List.mem_of_getElem? (i := 0) rfl) le_refl_e) (lc_cons (lt_arr (List.mem_of_getElem? (i := 1) rfl) le_refl_e) lc_nil)))) gin_nil) ?_
  refine sq_alloc rfl rfl rfl rfl Tryz.zeroValue26 rfl ?_
  intro b5
  refine sq_storeB0 0 rfl rfl rfl (ev_tmp rfl) (ev_tmp rfl) (as_agg _) rfl Tryz.sizeOf26 rfl ?_
  refine sq_nil ?_
  refine awp_seq ?_
  refine AWP.le (le_pick [0] rfl) ?_
  refine awp_region_mix _ [(0, false), (1, false), (2, false), (3, true)] (by kernel_rfl) (by kernel_rfl) rfl (invx_take 1) ?_
  refine bc_plain rfl rfl rfl (fun ext => w_loadA 0 rfl (ev_tmp rfl) rfl Tryz.isAgg26 Tryz.sizeOf26 rfl) ?_
  refine bc_plain rfl rfl rfl (fun ext => w_move rfl (ev_tmp rfl)) ?_
  refine bc_plain rfl rfl rfl (fun ext => w_bslice rfl Tryz.underlying23 Tryz.sizeOf9 Tryz.zeroValue9 rfl rfl rfl rfl (bp_cons (ev_cs' (l := [97]) rfl) (as_str _) (bp_cons (ev_cs' (l := [98]) rfl) (as_str _) (bp_cons (ev_cs' (l := [99]) rfl) (as_str _) (bp_cons (ev_cs' (l := [109]) rfl) (as_str _) (bp_cons (ev_cs' (l := [110]) rfl) (as_str _) (bp_cons (ev_cs' (l := [122]) rfl) (as_str _) (bp_cons (ev_cs' (l := [114, 47, 49]) rfl) (as_str _) (bp_cons (ev_cs' (l := [105, 47, 120, 47, 49]) rfl) (as_str _) (bp_cons (ev_cs' (l := []) rfl) (as_str _) (bp_cons (ev_cs' (l := [48]) rfl) (as_str _) (bp_cons (ev_cs' (l := [122, 122]) rfl) (as_str _) bp_nil))))))))))) rfl rfl) ?_
  refine bc_eff rfl rfl rfl (opE_call [1] rfl Tryz.call16 rfl (curOf_own _ _ hcode _ ([[97], [98], [99], [109], [110], [122], [114, 47, 49], [105, 47, 120, 47, 49], [], [48], [122, 122]] : List Str) (by decide) (by omega)) (evl_cons (ev_tmp rfl) (evl_cons (ev_tmp rfl) evl_nil)) rfl) (fun a _ => (by first | exact invx_mk rfl | exact invx_mk (List.append_assoc _ _ _) | exact invx_all)) ?_
  intro x14 ok14
  refine bc_nil ?_
  refine sq_storeB0 1 rfl rfl rfl (ev_tmp rfl) (ev_tmp rfl) (as_agg _) rfl Tryz.sizeOf26 rfl ?_
  refine sq_plain rfl rfl rfl (w_assign rfl (ev_tmp rfl)) ?_
  refine sq_nil ?_
  refine awp_ret ?_
  (refine retG [] ((x10.2.1, x14.2)) ?_ rfl (by first | (dsimp only; rfl) | rfl) (resN rfl (by decide) (rv_cons (rv_cell (ys := _) 1 rfl rfl Tryz.isAgg26 Tryz.sizeOf26 rfl) (rv_cons (rv_tmp' rfl (by rfl)) rv_nil))); exact ⟨ok10.2, ok14.2⟩)
end Go.Proofs.YtdgoejkijpllpaaGreatDoor

set_option linter.unusedVariables false
set_option linter.unusedSimpArgs false
namespace Go.M
/-- The bytes of a number: seven bits each, the least first; the last one is below 128. -/
def numB (n : Nat) : Str := if h : 128 ≤ n then UInt8.ofNat (n % 128 + 128) :: numB (n / 128) else [UInt8.ofNat n]
termination_by n
decreasing_by omega
theorem numB_small {n : Nat} (h : n < 128) : numB n = [UInt8.ofNat n] := by rw [numB, dif_neg (by omega)]
theorem numB_big {n : Nat} (h : 128 ≤ n) : numB n = UInt8.ofNat (n % 128 + 128) :: numB (n / 128) := by rw [numB, dif_pos h]
theorem u8_nat {n : Nat} (h : n < 256) : (UInt8.ofNat n).toNat = n := by rw [UInt8.toNat_ofNat']; exact Nat.mod_eq_of_lt h
/-- The bytes up to the first one below 128. -/
def vpre : Str → Option Str
  | [] => none
  | b :: s => if b.toNat < 128 then some [b] else (vpre s).map (b :: ·)
def vval : Str → Nat
  | [] => 0
  | b :: s => b.toNat % 128 + 128 * vval s
/-- A number at the front of bytes, and how many bytes it has. -/
def numP (s : Str) : Option (Nat × Nat) := match vpre s with
  | none => none
  | some p => if vval p ≤ 1000000000 ∧ numB (vval p) = p then some (vval p, p.length) else none
def Cont (s : Str) : Prop := ∀ b ∈ s, 128 ≤ b.toNat
theorem vpre_cont : ∀ {p : Str} {s : Str}, Cont p → vpre (p ++ s) = (vpre s).map (p ++ ·)
  | [], s, _ => by rw [List.nil_append]; cases vpre s <;> rfl
  | b :: p, s, h => by
    have hb := h b List.mem_cons_self
    show (if b.toNat < 128 then some [b] else (vpre (p ++ s)).map (b :: ·)) = _
    rw [if_neg (by omega), vpre_cont fun c hc => h c (List.mem_cons_of_mem _ hc), Option.map_map]
    rfl
theorem vpre_stop {p : Str} {b : UInt8} {s : Str} (h : Cont p) (hb : b.toNat < 128) : vpre (p ++ b :: s) = some (p ++ [b]) := by
  rw [vpre_cont h]
  show ((if b.toNat < 128 then some [b] else (vpre s).map (b :: ·)).map (p ++ ·)) = _
  rw [if_pos hb]; rfl
theorem vpre_none {p : Str} (h : Cont p) : vpre p = none := by
  have := vpre_cont (s := []) h
  rw [List.append_nil] at this; exact this
theorem vval_app : ∀ (p s : Str), vval (p ++ s) = vval p + 128 ^ p.length * vval s
  | [], s => by simp [vval]
  | b :: p, s => by
    show b.toNat % 128 + 128 * vval (p ++ s) = b.toNat % 128 + 128 * vval p + 128 ^ (p.length + 1) * vval s
    rw [vval_app p s, Nat.mul_add, Nat.pow_succ, ← Nat.mul_assoc, Nat.mul_comm (128 ^ p.length) 128]; omega
theorem vval_snoc (p : Str) (b : UInt8) : vval (p ++ [b]) = vval p + b.toNat % 128 * 128 ^ p.length := by
  rw [vval_app]; show vval p + 128 ^ p.length * (b.toNat % 128 + 128 * 0) = _; rw [Nat.mul_zero, Nat.add_zero, Nat.mul_comm]
theorem numB_form (n : Nat) : ∃ (p : Str) (b : UInt8), numB n = p ++ [b] ∧ Cont p ∧ b.toNat < 128 := by
  induction n using Nat.strongRecOn with
  | _ n ih =>
    rcases Nat.lt_or_ge n 128 with h | h
    · exact ⟨[], _, numB_small h, fun b hb => by simp at hb, by rw [u8_nat (by omega)]; exact h⟩
    · obtain ⟨p, b, h1, h2, h3⟩ := ih (n / 128) (by omega)
      refine ⟨UInt8.ofNat (n % 128 + 128) :: p, b, by rw [numB_big h, h1]; rfl, fun c hc => ?_, h3⟩
      rcases List.mem_cons.1 hc with rfl | hc
      · rw [u8_nat (by omega)]; omega
      · exact h2 c hc
theorem vpre_numB (n : Nat) (s : Str) : vpre (numB n ++ s) = some (numB n) := by
  obtain ⟨p, b, h1, h2, h3⟩ := numB_form n
  rw [h1, List.append_assoc]
  exact vpre_stop h2 h3
theorem vval_numB (n : Nat) : vval (numB n) = n := by
  induction n using Nat.strongRecOn with
  | _ n ih =>
    rcases Nat.lt_or_ge n 128 with h | h
    · rw [numB_small h]; show (UInt8.ofNat n).toNat % 128 + 128 * 0 = n; rw [u8_nat (by omega)]; omega
    · rw [numB_big h]
      show (UInt8.ofNat (n % 128 + 128)).toNat % 128 + 128 * vval (numB (n / 128)) = n
      rw [u8_nat (by omega), ih (n / 128) (by omega)]; omega
theorem numB_pos (n : Nat) : 1 ≤ (numB n).length := by
  obtain ⟨p, b, h1, _⟩ := numB_form n
  rw [h1]; simp
theorem numB_len {k : Nat} : ∀ {n : Nat}, n < 128 ^ k → 1 ≤ k → (numB n).length ≤ k := by
  induction k with
  | zero => intro n _ h; omega
  | succ k ih =>
    intro n h _
    rcases Nat.lt_or_ge n 128 with h1 | h1
    · rw [numB_small h1]; simp
    · rw [numB_big h1, List.length_cons]
      have hk : 1 ≤ k := by
        rcases Nat.eq_zero_or_pos k with h0 | h0
        · subst h0; simp at h; omega
        · exact h0
      have := ih (n := n / 128) (by rw [Nat.pow_succ] at h; omega) hk
      omega
theorem numB_len5 {n : Nat} (h : n ≤ 1000000000) : (numB n).length ≤ 5 := numB_len (k := 5) (by omega) (by decide)
theorem numP_numB {n : Nat} (h : n ≤ 1000000000) (s : Str) : numP (numB n ++ s) = some (n, (numB n).length) := by
  unfold numP
  rw [vpre_numB]
  simp only [vval_numB]
  rw [if_pos ⟨h, trivial⟩]
theorem vpre_split : ∀ {s p : Str}, vpre s = some p → ∃ q b t, p = q ++ [b] ∧ s = p ++ t ∧ Cont q ∧ b.toNat < 128
  | [], p, h => by cases h
  | c :: s, p, h => by
    unfold vpre at h
    split at h
    · rename_i hc
      injection h with h; subst h
      exact ⟨[], c, s, rfl, rfl, fun b hb => by simp at hb, hc⟩
    · rename_i hc
      cases hs : vpre s with
      | none => rw [hs] at h; cases h
      | some p' =>
        rw [hs] at h
        injection h with h; subst h
        obtain ⟨q, b, t, h1, h2, h3, h4⟩ := vpre_split hs
        refine ⟨c :: q, b, t, by rw [h1]; rfl, by rw [h2]; rfl, fun x hx => ?_, h4⟩
        rcases List.mem_cons.1 hx with rfl | hx
        · omega
        · exact h3 x hx
theorem numP_some {s : Str} {n k : Nat} (h : numP s = some (n, k)) : n ≤ 1000000000 ∧ k = (numB n).length ∧ ∃ t, s = numB n ++ t := by
  unfold numP at h
  cases hs : vpre s with
  | none => rw [hs] at h; cases h
  | some p =>
    rw [hs] at h
    simp only at h
    split at h
    · rename_i hh
      injection h with h
      injection h with h1 h2
      obtain ⟨q, b, t, g1, g2, _⟩ := vpre_split hs
      subst h1
      exact ⟨hh.1, by rw [hh.2, h2], t, by rw [hh.2]; exact g2⟩
    · cases h
theorem numP_len {s : Str} {n k : Nat} (h : numP s = some (n, k)) : k ≤ s.length ∧ 1 ≤ k ∧ k ≤ 5 := by
  obtain ⟨h1, h2, t, h3⟩ := numP_some h
  have := numB_pos n
  have := numB_len5 h1
  rw [h3, List.length_append]; omega
/-- While all bytes read go on: no number if the bytes end, if the value is too great, or if there are more than five. -/
theorem numP_end {p : Str} (h : Cont p) : numP p = none := by unfold numP; rw [vpre_none h]
theorem numP_stop {p : Str} {b : UInt8} {s : Str} (h : Cont p) (hb : b.toNat < 128) : numP (p ++ b :: s) = if vval (p ++ [b]) ≤ 1000000000 ∧ numB (vval (p ++ [b])) = p ++ [b] then some (vval (p ++ [b]), p.length + 1) else none := by
  unfold numP; rw [vpre_stop h hb]
  simp only [List.length_append, List.length_cons, List.length_nil, Nat.zero_add]
theorem numP_great {p : Str} {s : Str} (h : Cont p) (hv : 1000000000 < vval p) : numP (p ++ s) = none := by
  unfold numP
  rw [vpre_cont h]
  cases vpre s with
  | none => rfl
  | some q =>
    simp only [Option.map_some]
    rw [if_neg]
    intro hc
    have := hc.1
    rw [vval_app] at this
    omega
theorem numP_long {p : Str} {s : Str} (h : Cont p) (hl : 5 ≤ p.length) : numP (p ++ s) = none := by
  unfold numP
  rw [vpre_cont h]
  cases hs : vpre s with
  | none => rfl
  | some q =>
    simp only [Option.map_some]
    rw [if_neg]
    intro hc
    obtain ⟨q', b, t, h1, _⟩ := vpre_split hs
    have h2 := numB_len5 hc.1
    rw [hc.2, h1] at h2
    simp only [List.length_append, List.length_cons, List.length_nil] at h2
    omega
theorem cont_ne {p : Str} (h : Cont p) (n : Nat) : numB n ≠ p := by
  intro hc
  obtain ⟨q, b, h1, _, h3⟩ := numB_form n
  have := h b (by rw [← hc, h1]; simp)
  omega
theorem cont_snoc {p : Str} {b : UInt8} (h : Cont p) (hb : 128 ≤ b.toNat) : Cont (p ++ [b]) := fun c hc => by
  rcases List.mem_append.1 hc with hc | hc
  · exact h c hc
  · rw [List.mem_singleton.1 hc]; exact hb
/-! ### A reader: where it is, whether it failed -/
structure TSrc where
  at' : Nat
  bad : Bool
open Go.AV in
def srcC (b : Str) (s : TSrc) : List AV := [AV.str b, AV.int s.at', AV.bool s.bad]
def numA (b : Str) (s : TSrc) : Option (Nat × Nat) := if s.bad = true then none else numP (b.drop s.at')
/-- What a reader of numbers leaves. -/
def NumOk (b : Str) (s : TSrc) (x : TSrc × Nat) : Prop := (s.at' ≤ x.1.at' ∧ x.1.at' ≤ b.length) ∧ x.2 ≤ 1000000000 ∧ match numA b s with
  | some (n, k) => x = (⟨s.at' + k, false⟩, n)
  | none => x.1.bad = true ∧ x.2 = 0
/-- A text at the front of bytes. -/
def textP (s : Str) : Option (Str × Nat) := match numP s with
  | none => none
  | some (n, k) => if n ≤ 60 ∧ k + n ≤ s.length then some ((s.drop k).take n, k + n) else none
def textA (b : Str) (s : TSrc) : Option (Str × Nat) := if s.bad = true then none else textP (b.drop s.at')
def TextOk (b : Str) (s : TSrc) (x : TSrc × Str) : Prop := (s.at' ≤ x.1.at' ∧ x.1.at' ≤ b.length) ∧ x.2.length ≤ 60 ∧ match textA b s with
  | some (t, k) => x = (⟨s.at' + k, false⟩, t)
  | none => x.1.bad = true ∧ x.2 = []
def textB (s : Str) : Str := numB s.length ++ s
theorem textP_textB {t : Str} (h : t.length ≤ 60) (s : Str) : textP (textB t ++ s) = some (t, (textB t).length) := by
  unfold textP textB
  rw [List.append_assoc, numP_numB (by omega)]
  simp only [List.length_append]
  rw [if_pos ⟨h, by omega⟩, List.drop_left, List.take_left]
theorem textP_some {s t : Str} {k : Nat} (h : textP s = some (t, k)) : t.length ≤ 60 ∧ k = (textB t).length ∧ k ≤ s.length ∧ ∃ r, s = textB t ++ r := by
  unfold textP at h
  cases hn : numP s with
  | none => rw [hn] at h; cases h
  | some x =>
    obtain ⟨n, j⟩ := x
    rw [hn] at h
    simp only at h
    split at h
    · rename_i hh
      injection h with h
      injection h with h1 h2
      obtain ⟨g1, g2, r, g3⟩ := numP_some hn
      have hd : s.drop j = r := by rw [g3, g2, List.drop_left]
      rw [hd] at h1
      have hlr : n ≤ r.length := by rw [g3, List.length_append] at hh; omega
      have hl : t.length = n := by rw [← h1, List.length_take]; omega
      refine ⟨by omega, ?_, by omega, r.drop n, ?_⟩
      · unfold textB; rw [List.length_append, hl]; omega
      · unfold textB; rw [hl, ← h1, List.append_assoc, List.take_append_drop]; exact g3
    · cases h
/-- Some texts, one behind the other. -/
def textsN : Nat → Str → Option (List Str × Nat)
  | 0, _ => some ([], 0)
  | n + 1, s => match textP s with
    | none => none
    | some (t, k) => (textsN n (s.drop k)).map fun r => (t :: r.1, k + r.2)
def textsP (s : Str) : Option (List Str × Nat) := match numP s with
  | none => none
  | some (n, k) => if n ≤ 40 then (textsN n (s.drop k)).map fun r => (r.1, k + r.2) else none
def textsA (b : Str) (s : TSrc) : Option (List Str × Nat) := if s.bad = true then none else textsP (b.drop s.at')
def textsB (l : List Str) : Str := numB l.length ++ (l.map textB).flatten
theorem textsN_textsB : ∀ {l : List Str} (s : Str), (∀ t ∈ l, t.length ≤ 60) → textsN l.length ((l.map textB).flatten ++ s) = some (l, (l.map textB).flatten.length)
  | [], s, _ => rfl
  | t :: l, s, h => by
    have hf : ((t :: l).map textB).flatten ++ s = textB t ++ ((l.map textB).flatten ++ s) := by rw [List.map_cons, List.flatten_cons, List.append_assoc]
    rw [hf, List.length_cons]
    unfold textsN
    rw [textP_textB (h t List.mem_cons_self)]
    simp only
    rw [List.drop_left, textsN_textsB s fun x hx => h x (List.mem_cons_of_mem _ hx)]
    simp
theorem textsP_textsB {l : List Str} (h : ∀ t ∈ l, t.length ≤ 60) (hl : l.length ≤ 40) (s : Str) : textsP (textsB l ++ s) = some (l, (textsB l).length) := by
  unfold textsP textsB
  rw [List.append_assoc, numP_numB (by omega)]
  simp only
  rw [if_pos hl, List.drop_left, textsN_textsB s h]
  simp [List.length_append]
theorem numOk_bad {b : Str} {s : TSrc} {x : TSrc × Nat} (h : NumOk b s x) (hb : x.1.bad = true) : numA b s = none := by
  obtain ⟨_, _, h3⟩ := h
  cases hn : numA b s with
  | none => rfl
  | some y => obtain ⟨n, k⟩ := y; rw [hn] at h3; simp only at h3; rw [h3] at hb; cases hb
theorem numOk_good {b : Str} {s : TSrc} {x : TSrc × Nat} (h : NumOk b s x) (hb : x.1.bad = false) : ∃ n k, numA b s = some (n, k) ∧ x = (⟨s.at' + k, false⟩, n) := by
  obtain ⟨_, _, h3⟩ := h
  cases hn : numA b s with
  | none => rw [hn] at h3; rw [h3.1] at hb; cases hb
  | some y => obtain ⟨n, k⟩ := y; rw [hn] at h3; exact ⟨n, k, rfl, h3⟩
theorem numOk_zero {b : Str} {s : TSrc} {x : TSrc × Nat} (h : NumOk b s x) (hb : x.1.bad = true) : x.2 = 0 := by
  have hn := numOk_bad h hb
  obtain ⟨_, _, h3⟩ := h
  rw [hn] at h3; exact h3.2
theorem textOk_bad {b : Str} {s : TSrc} {x : TSrc × Str} (h : TextOk b s x) (hb : x.1.bad = true) : textA b s = none := by
  obtain ⟨_, _, h3⟩ := h
  cases hn : textA b s with
  | none => rfl
  | some y => obtain ⟨n, k⟩ := y; rw [hn] at h3; simp only at h3; rw [h3] at hb; cases hb
theorem textOk_good {b : Str} {s : TSrc} {x : TSrc × Str} (h : TextOk b s x) (hb : x.1.bad = false) : ∃ t k, textA b s = some (t, k) ∧ x = (⟨s.at' + k, false⟩, t) := by
  obtain ⟨_, _, h3⟩ := h
  cases hn : textA b s with
  | none => rw [hn] at h3; rw [h3.1] at hb; cases hb
  | some y => obtain ⟨n, k⟩ := y; rw [hn] at h3; exact ⟨n, k, rfl, h3⟩
def TextsOk (b : Str) (s : TSrc) (t : TSrc) (l : List Str) : Prop := (s.at' ≤ t.at' ∧ t.at' ≤ b.length) ∧ match textsA b s with
  | some (r, k) => t = ⟨s.at' + k, false⟩ ∧ l = r
  | none => t.bad = true
/-- The next bytes, if there are so many. -/
def takeR (b : Str) (s : TSrc) (n : Nat) : TSrc × Str := if (s.bad || decide ((b.length : Int) - (s.at' : Int) < (n : Int))) = true then (⟨s.at', true⟩, []) else (⟨s.at' + n, false⟩, (b.drop s.at').take n)
theorem takeR_bad {b : Str} {s : TSrc} {n : Nat} (h : s.bad = true) : takeR b s n = (⟨s.at', true⟩, []) := by unfold takeR; rw [if_pos (by rw [h]; rfl)]
theorem takeR_one {b : Str} {s : TSrc} (h : s.bad = false) (hs : s.at' ≤ b.length) : (b.drop s.at' = [] ∧ takeR b s 1 = (⟨s.at', true⟩, [])) ∨ ∃ c r, b.drop s.at' = c :: r ∧ takeR b s 1 = (⟨s.at' + 1, false⟩, [c]) := by
  have hl : (b.drop s.at').length = b.length - s.at' := List.length_drop
  unfold takeR
  rw [h, Bool.false_or]
  cases hd : b.drop s.at' with
  | nil =>
    rw [hd] at hl
    simp only [List.length_nil] at hl
    exact .inl ⟨rfl, by rw [if_pos (decide_eq_true (by omega))]⟩
  | cons c r =>
    rw [hd] at hl
    simp only [List.length_cons] at hl
    exact .inr ⟨c, r, rfl, by rw [if_neg (by rw [decide_eq_true_eq]; omega)]; rfl⟩
theorem textA_take {b : Str} {s : TSrc} {n k : Nat} (h : numA b s = some (n, k)) (hs : s.at' ≤ b.length) : textA b s = if n ≤ 60 ∧ k + n ≤ (b.drop s.at').length then some (((b.drop s.at').drop k).take n, k + n) else none := by
  unfold numA at h
  unfold textA textP
  cases hb : s.bad with
  | true => rw [hb] at h; cases h
  | false => rw [hb] at h; simp only [Bool.false_eq_true, if_false] at h ⊢; rw [h]
theorem textA_none {b : Str} {s : TSrc} (h : numA b s = none) : textA b s = none := by
  unfold numA at h
  unfold textA textP
  cases hb : s.bad with
  | true => rfl
  | false => rw [hb] at h; simp only [Bool.false_eq_true, if_false] at h ⊢; rw [h]
theorem textsA_num {b : Str} {s : TSrc} {n k : Nat} (h : numA b s = some (n, k)) : textsA b s = if n ≤ 40 then (textsN n ((b.drop s.at').drop k)).map (fun r => (r.1, k + r.2)) else none := by
  unfold numA at h
  unfold textsA textsP
  cases hb : s.bad with
  | true => rw [hb] at h; cases h
  | false => rw [hb] at h; simp only [Bool.false_eq_true, if_false] at h ⊢; rw [h]
theorem textsA_none {b : Str} {s : TSrc} (h : numA b s = none) : textsA b s = none := by
  unfold numA at h
  unfold textsA textsP
  cases hb : s.bad with
  | true => rfl
  | false => rw [hb] at h; simp only [Bool.false_eq_true, if_false] at h ⊢; rw [h]
/-- What holds while texts are read: m are still to come. -/
def RunOk (b : Str) (s : TSrc) (t : TSrc) (l : List Str) (m : Nat) : Prop := (s.at' ≤ t.at' ∧ t.at' ≤ b.length) ∧ ((t.bad = true ∧ textsA b s = none) ∨ (t.bad = false ∧ textsA b s = (textsN m (b.drop t.at')).map fun r => (l ++ r.1, (t.at' - s.at') + r.2)))
theorem runOk_end {b : Str} {s t : TSrc} {l : List Str} (h : RunOk b s t l 0) : TextsOk b s t l := by
  obtain ⟨h1, h2⟩ := h
  refine ⟨h1, ?_⟩
  rcases h2 with ⟨h2, h3⟩ | ⟨h2, h3⟩
  · rw [h3]; exact h2
  · rw [h3]
    show t = ⟨s.at' + ((t.at' - s.at') + 0), false⟩ ∧ l = l ++ []
    refine ⟨?_, by rw [List.append_nil]⟩
    obtain ⟨ta, tb⟩ := t
    simp only at h2 h1
    rw [h2]
    show (⟨ta, false⟩ : TSrc) = ⟨s.at' + ((ta - s.at') + 0), false⟩
    rw [show s.at' + ((ta - s.at') + 0) = ta by omega]
theorem runOk_bad {b : Str} {s t : TSrc} {l : List Str} {m : Nat} (h : RunOk b s t l m) (hb : t.bad = true) : TextsOk b s t l := by
  obtain ⟨h1, h2⟩ := h
  refine ⟨h1, ?_⟩
  rcases h2 with ⟨h2, h3⟩ | ⟨h2, h3⟩
  · rw [h3]; exact h2
  · rw [h2] at hb; cases hb
theorem runOk_step {b : Str} {s t : TSrc} {l : List Str} {m : Nat} {x : TSrc × Str} (h : RunOk b s t l (m + 1)) (hb : t.bad = false) (hx : TextOk b t x) : RunOk b s x.1 (l ++ [x.2]) m := by
  obtain ⟨h1, h2⟩ := h
  have hxx := hx
  obtain ⟨g1, g2, g3⟩ := hx
  refine ⟨by omega, ?_⟩
  rcases h2 with ⟨h2, h3⟩ | ⟨h2, h3⟩
  · rw [h2] at hb; cases hb
  · have ht : textA b t = textP (b.drop t.at') := by unfold textA; rw [hb]; rfl
    cases hq : textP (b.drop t.at') with
    | none =>
      rw [ht, hq] at g3
      refine .inl ⟨g3.1, ?_⟩
      rw [h3]; unfold textsN; rw [hq]; rfl
    | some y =>
      obtain ⟨u, k⟩ := y
      rw [ht, hq] at g3
      simp only at g3
      subst g3
      refine .inr ⟨rfl, ?_⟩
      rw [h3]
      conv => lhs; unfold textsN
      rw [hq]
      simp only [Option.map_map, List.drop_drop]
      congr 1
      funext r
      simp only [Function.comp_apply, List.append_assoc, List.singleton_append]
      rw [show t.at' - s.at' + (k + r.2) = t.at' + k - s.at' + r.2 by omega]
theorem numP_over {p r : Str} {c : UInt8} (hcp : Cont p) (h : 1000000000 < vval (p ++ [c]) ∨ 5 ≤ p.length) : numP (p ++ c :: r) = none := by
  rcases Nat.lt_or_ge c.toNat 128 with hc | hc
  · rw [numP_stop hcp hc, if_neg]
    intro hh
    rcases h with h | h
    · omega
    · have h5 := numB_len5 hh.1
      rw [hh.2, List.length_append] at h5
      simp only [List.length_cons, List.length_nil] at h5
      omega
  · rcases h with h | h
    · have := numP_great (s := r) (cont_snoc hcp hc) h
      rwa [List.append_assoc] at this
    · exact numP_long hcp h
theorem vval_lt : ∀ (p : Str), vval p < 128 ^ p.length
  | [] => by decide
  | c :: p => by
    have := vval_lt p
    show c.toNat % 128 + 128 * vval p < 128 ^ (p.length + 1)
    rw [Nat.pow_succ]; omega
def oneR (b : Str) (s : TSrc) : TSrc × Nat := if (s.bad || decide ((b.length : Int) ≤ (s.at' : Int))) = true then (⟨s.at', true⟩, 0) else (⟨s.at' + 1, false⟩, (b.getD s.at' 0).toNat)
theorem oneR_bad {b : Str} {s : TSrc} (h : s.bad = true) : oneR b s = (⟨s.at', true⟩, 0) := by unfold oneR; rw [if_pos (by rw [h]; rfl)]
theorem oneR_one {b : Str} {s : TSrc} (h : s.bad = false) (hs : s.at' ≤ b.length) : (b.drop s.at' = [] ∧ oneR b s = (⟨s.at', true⟩, 0)) ∨ ∃ c r, b.drop s.at' = c :: r ∧ oneR b s = (⟨s.at' + 1, false⟩, c.toNat) := by
  have hl : (b.drop s.at').length = b.length - s.at' := List.length_drop
  unfold oneR
  rw [h, Bool.false_or]
  cases hd : b.drop s.at' with
  | nil =>
    rw [hd] at hl
    simp only [List.length_nil] at hl
    exact .inl ⟨rfl, by rw [if_pos (decide_eq_true (by omega))]⟩
  | cons c r =>
    rw [hd] at hl
    simp only [List.length_cons] at hl
    refine .inr ⟨c, r, rfl, ?_⟩
    rw [if_neg (by rw [decide_eq_true_eq]; omega)]
    have : b[s.at']? = some c := by
      have h9 : (b.drop s.at')[0]? = some c := by rw [hd]; rfl
      rwa [List.getElem?_drop, Nat.add_zero] at h9
    rw [List.getD_eq_getElem?_getD, this]; rfl
theorem runOk_start {b : Str} {s : TSrc} {x : TSrc × Nat} (h : NumOk b s x) (hn : x.2 ≤ 40) : RunOk b s x.1 [] x.2 := by
  refine ⟨h.1, ?_⟩
  cases hb : x.1.bad with
  | true => exact .inl ⟨rfl, textsA_none (numOk_bad h hb)⟩
  | false =>
    obtain ⟨n, k, h1, h2⟩ := numOk_good h hb
    subst h2
    refine .inr ⟨rfl, ?_⟩
    rw [textsA_num h1, if_pos hn, List.drop_drop]
    simp only [List.nil_append, Nat.add_sub_cancel_left]
theorem runOk_big {b : Str} {s : TSrc} {x : TSrc × Nat} (h : NumOk b s x) (hn : 40 < x.2) (m : Nat) : RunOk b s ⟨x.1.at', true⟩ [] m := by
  refine ⟨h.1, .inl ⟨rfl, ?_⟩⟩
  cases hb : x.1.bad with
  | true => have := numOk_zero h hb; omega
  | false =>
    obtain ⟨n, k, h1, h2⟩ := numOk_good h hb
    subst h2
    rw [textsA_num h1, if_neg (by simp only at hn; omega)]
theorem textsOk_bad {b : Str} {s t : TSrc} {l : List Str} (h : TextsOk b s t l) (hb : t.bad = true) : textsA b s = none := by
  obtain ⟨_, h2⟩ := h
  cases hn : textsA b s with
  | none => rfl
  | some y => obtain ⟨n, k⟩ := y; rw [hn] at h2; simp only at h2; rw [h2.1] at hb; cases hb
theorem textsOk_good {b : Str} {s t : TSrc} {l : List Str} (h : TextsOk b s t l) (hb : t.bad = false) : ∃ k, textsA b s = some (l, k) ∧ t = ⟨s.at' + k, false⟩ := by
  obtain ⟨_, h2⟩ := h
  cases hn : textsA b s with
  | none => rw [hn] at h2; rw [h2] at hb; cases hb
  | some y => obtain ⟨n, k⟩ := y; rw [hn] at h2; simp only at h2; rw [h2.2]; exact ⟨k, rfl, h2.1⟩
def placeB (b : Str) (at' : Int) : Bool := decide ((b.length : Int) ≤ 6000) && within at' 0 b.length
def readNumR (b : Str) (at' : Int) : Int × Int × Bool := if (!placeB b at') = true then (0, 0, false) else match numP (b.drop at'.toNat) with
  | some (n, k) => ((n : Int), at' + k, true)
  | none => (0, 0, false)
def readTextR (b : Str) (at' : Int) : Str × Int × Bool := if (!placeB b at') = true then ([], 0, false) else match textP (b.drop at'.toNat) with
  | some (t, k) => (t, at' + k, true)
  | none => ([], 0, false)
def readTextsR (b : Str) (at' : Int) : List Str × Int × Bool := if (!placeB b at') = true then ([], 0, false) else match textsP (b.drop at'.toNat) with
  | some (l, k) => (l, at' + k, true)
  | none => ([], 0, false)
theorem placeB_nat {b : Str} {at' : Int} (h : placeB b at' = true) : b.length ≤ 6000 ∧ 0 ≤ at' ∧ at' ≤ b.length := by
  unfold placeB at h
  simp only [Bool.and_eq_true, decide_eq_true_eq] at h
  have h2 := h.2
  unfold within at h2
  simp at h2
  omega
theorem readNumR_of {b : Str} {k : Nat} (h : placeB b k = true) : readNumR b k = match numP (b.drop k) with
  | some (n, j) => ((n : Int), (k : Int) + j, true)
  | none => (0, 0, false) := by unfold readNumR; rw [h]; rfl
theorem readTextR_of {b : Str} {k : Nat} (h : placeB b k = true) : readTextR b k = match textP (b.drop k) with
  | some (n, j) => (n, (k : Int) + j, true)
  | none => ([], 0, false) := by unfold readTextR; rw [h]; rfl
theorem readTextsR_of {b : Str} {k : Nat} (h : placeB b k = true) : readTextsR b k = match textsP (b.drop k) with
  | some (n, j) => (n, (k : Int) + j, true)
  | none => ([], 0, false) := by unfold readTextsR; rw [h]; rfl
def numBytesR (n : Int) : Str × Bool := if (!within n 0 1000000000) = true then ([], false) else (numB n.toNat, true)
def textBytesR (s : Str) : Str × Bool := if decide ((60 : Int) < s.length) = true then ([], false) else (textB s, true)
def longT (t : Str) : Bool := decide ((60 : Int) < t.length)
def textsBytesR (l : List Str) : Str × Bool := if (decide ((40 : Int) < l.length) || l.any longT) = true then ([], false) else (textsB l, true)
theorem textOk_s {b : Str} {s : TSrc} {x : TSrc × Nat} (hs : s.at' ≤ b.length) (h : NumOk b s x) :
    (((x.1.bad || decide ((60 : Int) < (x.2 : Int))) || decide ((b.length : Int) < (x.1.at' : Int) + (x.2 : Int))) = true → TextOk b s (⟨x.1.at', true⟩, [])) ∧
    (((x.1.bad || decide ((60 : Int) < (x.2 : Int))) || decide ((b.length : Int) < (x.1.at' : Int) + (x.2 : Int))) = false → TextOk b s (⟨x.1.at' + x.2, false⟩, (b.drop x.1.at').take x.2) ∧ x.1.bad = false ∧ x.1.at' + x.2 ≤ b.length ∧ x.2 ≤ 60) := by
  have h0 := h.1
  cases hb : x.1.bad with
  | true =>
    refine ⟨fun _ => ⟨h0, Nat.zero_le _, by rw [textA_none (numOk_bad h hb)]; exact ⟨rfl, rfl⟩⟩, fun hc => by simp at hc⟩
  | false =>
    obtain ⟨n, k, h1, h2⟩ := numOk_good h hb
    subst h2
    simp only at h0 ⊢
    have hl : (b.drop s.at').length = b.length - s.at' := List.length_drop
    have ht := textA_take h1 hs
    refine ⟨fun hc => ⟨h0, Nat.zero_le _, ?_⟩, fun hc => ?_⟩
    · rw [if_neg] at ht
      · rw [ht]; exact ⟨rfl, rfl⟩
      · intro hh
        simp only [Bool.false_or, Bool.or_eq_true, decide_eq_true_eq] at hc
        omega
    · simp only [Bool.false_or, Bool.or_eq_false_iff, decide_eq_false_iff_not] at hc
      rw [if_pos (by omega), List.drop_drop] at ht
      refine ⟨⟨⟨by show s.at' ≤ s.at' + k + n; omega, by show s.at' + k + n ≤ b.length; omega⟩, ?_, ?_⟩, by trivial, by omega, by omega⟩
      · show ((b.drop (s.at' + k)).take n).length ≤ 60
        rw [List.length_take]; omega
      · rw [ht]
        show ((⟨s.at' + k + n, false⟩ : TSrc), (b.drop (s.at' + k)).take n) = (⟨s.at' + (k + n), false⟩, (b.drop (s.at' + k)).take n)
        rw [Nat.add_assoc]
theorem numA_new {b : Str} {k : Nat} : numA b ⟨k, false⟩ = numP (b.drop k) := rfl
theorem textA_new {b : Str} {k : Nat} : textA b ⟨k, false⟩ = textP (b.drop k) := rfl
theorem textsA_new {b : Str} {k : Nat} : textsA b ⟨k, false⟩ = textsP (b.drop k) := rfl
end Go.M

set_option linter.unusedVariables false
set_option linter.unusedSimpArgs false
set_option maxRecDepth 100000
namespace Go.M
open Go.AV
theorem wrap_u8 (m : Nat) : IntKind.u8.wrap (m : Int) = ((UInt8.ofNat m).toNat : Int) := by
  rw [UInt8.toNat_ofNat']
  unfold IntKind.wrap
  simp [IntKind.bits, IntKind.signed]
theorem tmod_nat (m k : Nat) : ((m : Int).tmod (k : Int)) = ((m % k : Nat) : Int) := (Int.ofNat_tmod m k).symm
theorem tdiv_nat (m k : Nat) : ((m : Int).tdiv (k : Int)) = ((m / k : Nat) : Int) := (Int.ofNat_tdiv m k).symm
theorem wrap_nat {m : Nat} (h : m ≤ 9223372036854775807) : IntKind.i64.wrap (m : Int) = (m : Int) := in64 (by omega)
theorem byte_hi (m : Nat) : IntKind.u8.wrap (IntKind.u8.wrap ((m : Int).tmod 128) + 128) = ((UInt8.ofNat (m % 128 + 128)).toNat : Int) := by
  have h1 := tmod_nat m 128
  rw [show ((128 : Nat) : Int) = 128 from rfl] at h1
  rw [h1, wrap_u8, u8_nat (by omega)]
  have := wrap_u8 (m % 128 + 128)
  rw [← this]; simp
theorem byte_hi2 (m : Nat) : IntKind.u8.wrap ((m : Int).tmod 128 + 128) = ((UInt8.ofNat (m % 128 + 128)).toNat : Int) := by
  have h1 := tmod_nat m 128
  rw [show ((128 : Nat) : Int) = 128 from rfl] at h1
  rw [h1]
  have := wrap_u8 (m % 128 + 128)
  rw [← this]; simp
theorem quo_nat {m : Nat} (h : m ≤ 9223372036854775807) : IntKind.i64.wrap ((m : Int).tdiv 128) = ((m / 128 : Nat) : Int) := by
  have h1 := tdiv_nat m 128
  rw [show ((128 : Nat) : Int) = 128 from rfl] at h1
  rw [h1, wrap_nat (by omega)]
theorem numB_len9 {n : Nat} (h : n ≤ 4611686018427387904) : (numB n).length ≤ 9 := numB_len (k := 9) (by omega) (by decide)
end Go.M
namespace Go.Proofs.YtdgoejkijpllpaaGreatDoor
open Go Go.AV Go.M
attribute [local irreducible] OpW OpA OpS AWP FSpec ESpec GSpec OpE RetOk RetOkG RvDen Le Ev GuardIs SrcIs Int.tmod Int.tdiv IntKind.wrap
end Go.Proofs.YtdgoejkijpllpaaGreatDoor

set_option linter.unusedVariables false
set_option linter.unusedSimpArgs false
set_option maxRecDepth 100000
namespace Go.M
open Go.AV
theorem rem_byte (c : UInt8) : IntKind.i64.wrap ((c.toNat : Int).tmod 128) = ((c.toNat % 128 : Nat) : Int) := by
  have h1 := tmod_nat c.toNat 128
  rw [show ((128 : Nat) : Int) = 128 from rfl] at h1
  rw [h1]; exact wrap_nat (by omega)
theorem vval_next (p : Str) (c : UInt8) : ((vval p : Nat) : Int) + ((c.toNat % 128 : Nat) : Int) * ((128 ^ p.length : Nat) : Int) = ((vval (p ++ [c]) : Nat) : Int) := by
  rw [vval_snoc]; simp
theorem pow_le5 {p : Str} (h : p.length ≤ 5) : 128 ^ p.length ≤ 34359738368 := Nat.le_trans (Nat.pow_le_pow_right (by decide) h) (by decide)
theorem mul_bd {a b : Nat} (ha : a ≤ 127) (hb : b ≤ 34359738368) : -9223372036854775808 ≤ ((a : Nat) : Int) * ((b : Nat) : Int) ∧ ((a : Nat) : Int) * ((b : Nat) : Int) ≤ 4363686772736 := by
  have h := Nat.mul_le_mul ha hb
  have h2 : ((a : Nat) : Int) * ((b : Nat) : Int) = ((a * b : Nat) : Int) := by simp
  rw [h2]; omega
theorem pow_next (p : Str) (c : UInt8) : ((128 ^ p.length : Nat) : Int) * 128 = ((128 ^ (p ++ [c]).length : Nat) : Int) := by
  rw [List.length_append, List.length_cons, List.length_nil, Nat.zero_add, Nat.pow_succ]; simp
theorem drop_more {b p r : Str} {a : Nat} {c : UInt8} (h : b.drop a = p ++ c :: r) : b.drop a = (p ++ [c]) ++ r := by rw [h, List.append_assoc]; rfl
theorem drop_at {b p r : Str} {a : Nat} (h : b.drop a = p ++ r) : b.drop (a + p.length) = r := by rw [← List.drop_drop, h, List.drop_left]
theorem take_drop_at {b p r : Str} {a : Nat} (h : b.drop a = p ++ r) : (b.take (a + p.length)).drop a = p := by
  rw [List.drop_take, h, Nat.add_sub_cancel_left, List.take_left]
/-- The number read so far ends here: what the reader says of it. -/
theorem numOk_none {b : Str} {s t : TSrc} (h1 : s.at' ≤ t.at' ∧ t.at' ≤ b.length) (h2 : t.bad = true) (h3 : numA b s = none) : NumOk b s (t, 0) := ⟨h1, Nat.zero_le _, by rw [h3]; exact ⟨h2, rfl⟩⟩
theorem numA_good {b : Str} {s : TSrc} (h : s.bad = false) : numA b s = numP (b.drop s.at') := by unfold numA; rw [h]; rfl
theorem numA_bad {b : Str} {s : TSrc} (h : s.bad = true) : numA b s = none := by unfold numA; rw [h]; rfl
theorem textOk_big {b : Str} {s : TSrc} {x : TSrc × Nat} (hs : s.at' ≤ b.length) (h : NumOk b s x) (hn : 60 < x.2) : TextOk b s (⟨x.1.at', true⟩, []) := by
  refine ⟨h.1, Nat.zero_le _, ?_⟩
  have hb : x.1.bad = false := by
    cases hb : x.1.bad with
    | false => rfl
    | true => have := numOk_zero h hb; omega
  obtain ⟨n, k, h1, h2⟩ := numOk_good h hb
  rw [textA_take h1 hs, if_neg (by rw [h2] at hn; simp only at hn; omega)]
  exact ⟨rfl, rfl⟩
theorem textOk_take {b : Str} {s : TSrc} {x : TSrc × Nat} (hs : s.at' ≤ b.length) (h : NumOk b s x) (hn : x.2 ≤ 60) : TextOk b s (takeR b x.1 x.2) := by
  have h0 := h.1
  cases hb : x.1.bad with
  | true =>
    rw [takeR_bad hb]
    exact ⟨h0, Nat.zero_le _, by rw [textA_none (numOk_bad h hb)]; exact ⟨rfl, rfl⟩⟩
  | false =>
    obtain ⟨n, k, h1, h2⟩ := numOk_good h hb
    subst h2
    simp only at hn h0 ⊢
    have hl : (b.drop s.at').length = b.length - s.at' := List.length_drop
    have ht := textA_take h1 hs
    unfold takeR
    by_cases hc : k + n ≤ (b.drop s.at').length
    · rw [if_pos ⟨hn, hc⟩, List.drop_drop] at ht
      rw [if_neg (by rw [Bool.false_or, decide_eq_true_eq]; simp only; omega)]
      refine ⟨⟨by show s.at' ≤ s.at' + k + n; omega, by show s.at' + k + n ≤ b.length; omega⟩, ?_, ?_⟩
      · show ((b.drop (s.at' + k)).take n).length ≤ 60
        rw [List.length_take]; omega
      · rw [ht]
        show ((⟨s.at' + k + n, false⟩ : TSrc), (b.drop (s.at' + k)).take n) = (⟨s.at' + (k + n), false⟩, (b.drop (s.at' + k)).take n)
        rw [Nat.add_assoc]
    · rw [if_neg (fun hh => hc hh.2)] at ht
      rw [if_pos (by rw [Bool.false_or, decide_eq_true_eq]; simp only; omega)]
      exact ⟨h0, Nat.zero_le _, by rw [ht]; exact ⟨rfl, rfl⟩⟩
theorem one_case {b p r0 : Str} {s t : TSrc} {xv : Nat} (hcp : Cont p) (hr0 : b.drop s.at' = p ++ r0) (hpl2 : s.at' + p.length ≤ b.length) (ht : (oneR b ⟨s.at' + p.length, s.bad⟩).1 = t) (hxv : (oneR b ⟨s.at' + p.length, s.bad⟩).2 = xv) :
    (t = ⟨s.at' + p.length, true⟩ ∧ xv = 0 ∧ numA b s = none) ∨ ∃ c r, r0 = c :: r ∧ t = ⟨s.at' + p.length + 1, false⟩ ∧ xv = c.toNat ∧ s.bad = false := by
  cases hsb : s.bad with
  | true =>
    rw [hsb, oneR_bad rfl] at ht hxv
    exact .inl ⟨ht.symm, hxv.symm, numA_bad hsb⟩
  | false =>
    rw [hsb] at ht hxv
    rcases oneR_one (b := b) (s := ⟨s.at' + p.length, false⟩) rfl hpl2 with ⟨g1, g2⟩ | ⟨c, r, g1, g2⟩
    · rw [g2] at ht hxv
      rw [drop_at hr0] at g1
      exact .inl ⟨ht.symm, hxv.symm, by rw [numA_good hsb, hr0, g1, List.append_nil]; exact numP_end hcp⟩
    · rw [g2] at ht hxv
      rw [drop_at hr0] at g1
      exact .inr ⟨c, r, g1, ht.symm, hxv.symm, rfl⟩
theorem one_bounds {b p r0 : Str} {s t : TSrc} {xv : Nat} (hpl2 : s.at' + p.length ≤ b.length) (hcase : (t = ⟨s.at' + p.length, true⟩ ∧ xv = 0 ∧ numA b s = none) ∨ ∃ c r, r0 = c :: r ∧ t = ⟨s.at' + p.length + 1, false⟩ ∧ xv = c.toNat ∧ s.bad = false) (hr0 : b.drop s.at' = p ++ r0) : s.at' ≤ t.at' ∧ t.at' ≤ b.length := by
  rcases hcase with ⟨h1, _⟩ | ⟨c, r, h1, h2, _⟩
  · rw [h1]; exact ⟨by show s.at' ≤ s.at' + p.length; omega, hpl2⟩
  · have h9 := congrArg List.length hr0
    rw [h1, List.length_drop, List.length_append, List.length_cons] at h9
    rw [h2]
    exact ⟨by show s.at' ≤ s.at' + p.length + 1; omega, by show s.at' + p.length + 1 ≤ b.length; omega⟩
theorem num_case {b p r0 : Str} {s t : TSrc} {xv V : Nat} (hcp : Cont p) (hr0 : b.drop s.at' = p ++ r0) (hcase : (t = ⟨s.at' + p.length, true⟩ ∧ xv = 0 ∧ numA b s = none) ∨ ∃ c r, r0 = c :: r ∧ t = ⟨s.at' + p.length + 1, false⟩ ∧ xv = c.toNat ∧ s.bad = false) (hx : xv < 128) (hV : vval p + xv % 128 * 128 ^ p.length = V) (htb : s.at' ≤ t.at' ∧ t.at' ≤ b.length) :
    (((t.bad || decide ((1000000000 : Int) < (V : Int))) || (numB V != (b.take t.at').drop s.at')) = true → numA b s = none) ∧ (((t.bad || decide ((1000000000 : Int) < (V : Int))) || (numB V != (b.take t.at').drop s.at')) = false → NumOk b s (t, V)) := by
  rcases hcase with ⟨h1, _, h3⟩ | ⟨c, r, h1, h2, h3, h4⟩
  · exact ⟨fun _ => h3, fun h => by rw [h1] at h; simp at h⟩
  · have hd1 : b.drop s.at' = p ++ c :: r := by rw [hr0, h1]
    have hd2 := drop_more hd1
    have hVc : V = vval (p ++ [c]) := by rw [← hV, h3, vval_snoc]
    have hsl : (b.take t.at').drop s.at' = p ++ [c] := by
      rw [h2]
      show (b.take (s.at' + p.length + 1)).drop s.at' = _
      rw [show s.at' + p.length + 1 = s.at' + (p ++ [c]).length by simp; omega]
      exact take_drop_at hd2
    have hst := numP_stop (s := r) hcp (show c.toNat < 128 by omega)
    rw [← hd1, ← numA_good h4, ← hVc] at hst
    rw [hsl]
    have hbad : t.bad = false := by rw [h2]
    rw [hbad, Bool.false_or]
    refine ⟨fun h => ?_, fun h => ?_⟩
    · rw [hst, if_neg]
      intro hh
      rw [hh.2] at h
      simp at h; omega
    · simp only [Bool.or_eq_false_iff, decide_eq_false_iff_not, bne_eq_false_iff_eq] at h
      rw [if_pos ⟨by omega, h.2⟩] at hst
      exact ⟨htb, by show V ≤ _; omega, by rw [hst, h2]; rfl⟩
theorem num_five {b p r0 : Str} {s t : TSrc} {V : Nat} (hcp : Cont p) (hr0 : b.drop s.at' = p ++ r0) (h5 : p.length = 5) (hpb : p ≠ [] → s.bad = false) (ht : (⟨s.at' + p.length, s.bad⟩ : TSrc) = t) (hV : vval p = V) :
    (((t.bad || decide ((1000000000 : Int) < (V : Int))) || (numB V != (b.take t.at').drop s.at')) = true → numA b s = none) ∧ (((t.bad || decide ((1000000000 : Int) < (V : Int))) || (numB V != (b.take t.at').drop s.at')) = false → NumOk b s (t, V)) := by
  have hsb := hpb (by intro hc; rw [hc] at h5; cases h5)
  refine ⟨fun _ => by rw [numA_good hsb, hr0]; exact numP_long hcp (by omega), fun h => ?_⟩
  exfalso
  have hsl : (b.take t.at').drop s.at' = p := by rw [← ht]; exact take_drop_at hr0
  rw [hsl] at h
  simp only [Bool.or_eq_false_iff, bne_eq_false_iff_eq] at h
  exact cont_ne hcp V h.2
end Go.M
namespace Go.Proofs.YtdgoejkijpllpaaGreatDoor
open Go Go.AV Go.M
attribute [local irreducible] OpW OpA OpS AWP FSpec ESpec GSpec OpE RetOk RetOkG RvDen Le Ev GuardIs SrcIs Int.tmod Int.tdiv IntKind.wrap
end Go.Proofs.YtdgoejkijpllpaaGreatDoor

set_option linter.unusedVariables false
set_option linter.unusedSimpArgs false
set_option maxRecDepth 100000
namespace Go.M
open Go.AV
theorem textB_len {t : Str} (h : t.length ≤ 4611686018427387904) : (textB t).length ≤ 9 + t.length := by
  unfold textB; rw [List.length_append]; have := numB_len9 h; omega
theorem flatB_len : ∀ {l : List Str}, (∀ t ∈ l, t.length ≤ 1048576) → ((l.map textB).flatten).length ≤ 10 * sizeL (fun x : Str => x.length) l
  | [], _ => Nat.zero_le _
  | t :: l, h => by
    have h1 := flatB_len (l := l) fun x hx => h x (List.mem_cons_of_mem _ hx)
    have h2 := h t List.mem_cons_self
    have h3 := textB_len (t := t) (by omega)
    unfold sizeL at h1 ⊢
    simp only [List.map_cons, List.flatten_cons, List.length_append, List.length_cons, List.sum_cons] at h1 ⊢
    omega
theorem takeB_next {l : List Str} {i : Nat} {x : Str} (h : l[i]? = some x) : ((l.take (i + 1)).map textB).flatten = ((l.take i).map textB).flatten ++ textB x := by
  rw [List.take_add_one, h]; simp
theorem sizeT_take {l : List Str} (i : Nat) : sizeL (fun x : Str => x.length) (l.take i) ≤ sizeL (fun x : Str => x.length) l := by
  have h : l = l.take i ++ l.drop i := (List.take_append_drop i l).symm
  unfold sizeL
  conv => rhs; rw [h]
  simp only [List.length_append, List.map_append, List.sum_append]
  omega
theorem sizeT_mem {l : List Str} {x : Str} (h : x ∈ l) : x.length ≤ sizeL (fun x : Str => x.length) l := sizeL_mem (f := fun x : Str => x.length) h
theorem textsB_len {l : List Str} (h : sizeL (fun x : Str => x.length) l ≤ 1048576) (i : Nat) : (numB l.length ++ ((l.take i).map textB).flatten).length ≤ 9 + 10485760 := by
  have h1 := sizeL_len (f := fun x : Str => x.length) (l := l)
  have h2 := numB_len9 (n := l.length) (by omega)
  have h3 := flatB_len (l := l.take i) fun t ht => Nat.le_trans (sizeT_mem (List.mem_of_mem_take ht)) h
  have h4 := sizeT_take (l := l) i
  rw [List.length_append]; omega
end Go.M
namespace Go.Proofs.YtdgoejkijpllpaaGreatDoor
open Go Go.AV Go.M
attribute [local irreducible] OpW OpA OpS AWP FSpec ESpec GSpec OpE RetOk RetOkG RvDen Le Ev GuardIs SrcIs Int.tmod Int.tdiv IntKind.wrap
end Go.Proofs.YtdgoejkijpllpaaGreatDoor

set_option linter.unusedVariables false
set_option linter.unusedSimpArgs false
set_option maxRecDepth 100000
namespace Go.Proofs.YtdgoejkijpllpaaGreatDoor
open Go Go.AV Go.M
attribute [local irreducible] OpW OpA OpS AWP FSpec ESpec GSpec OpE RetOk RetOkG RvDen Le Ev GuardIs SrcIs
end Go.Proofs.YtdgoejkijpllpaaGreatDoor

set_option linter.unusedVariables false
set_option linter.unusedSimpArgs false
set_option maxRecDepth 100000
namespace Go.Proofs.YtdgoejkijpllpaaGreatDoor
open Go Go.AV Go.M
attribute [local irreducible] OpW OpA OpS AWP FSpec ESpec GSpec OpE RetOk RetOkG RvDen Le Ev GuardIs SrcIs Int.tmod Int.tdiv IntKind.wrap bandI
end Go.Proofs.YtdgoejkijpllpaaGreatDoor

set_option linter.unusedVariables false
set_option linter.unusedSimpArgs false
set_option maxRecDepth 100000
namespace Go.M
open Go.AV
theorem spoil_a (t : Str) (i : Nat) (y : UInt8) : ((t.take i ++ [y]) ++ t.drop i).length = t.length + 1 := by
  simp only [List.length_append, List.length_cons, List.length_nil, List.length_take, List.length_drop]; omega
theorem spoil_b (t : Str) (i : Nat) (y : UInt8) : ((t.take i ++ [y]) ++ t.drop (i + 1)).length ≤ t.length + 1 := by
  simp only [List.length_append, List.length_cons, List.length_nil, List.length_take, List.length_drop]; omega
theorem spoil_c (t : Str) (i : Nat) : (t.take i ++ t.drop (i + 1)).length ≤ t.length + 1 := by
  simp only [List.length_append, List.length_take, List.length_drop]; omega
theorem sizeT_snoc (l : List Str) (x : Str) : sizeL (fun x : Str => x.length) (l ++ [x]) = sizeL (fun x : Str => x.length) l + x.length + 1 := by
  unfold sizeL; simp only [List.length_append, List.map_append, List.sum_append, List.length_cons, List.length_nil, List.map_cons, List.map_nil, List.sum_cons, List.sum_nil]; omega
theorem sizeT_rep (n : Nat) : sizeL (fun x : Str => x.length) (List.replicate n ([] : Str)) = n := by
  unfold sizeL; simp
theorem among_rd {x : Int} (h : x ∈ [0, 1, 127, 128, 16384, 1000000000]) : 0 ≤ x ∧ x ≤ 1000000000 := by
  simp at h; omega
theorem textsB_len2 {l : List Str} (h : sizeL (fun x : Str => x.length) l ≤ 1048576) : (textsB l).length ≤ 9 + 10 * sizeL (fun x : Str => x.length) l := by
  have h1 := sizeL_len (f := fun x : Str => x.length) (l := l)
  have h2 := numB_len9 (n := l.length) (by omega)
  have h3 := flatB_len (l := l) fun t ht => Nat.le_trans (sizeT_mem ht) h
  unfold textsB
  rw [List.length_append]; omega
end Go.M
namespace Go.Proofs.YtdgoejkijpllpaaGreatDoor
open Go Go.AV Go.M
attribute [local irreducible] OpW OpA OpS AWP FSpec ESpec GSpec OpE RetOk RetOkG RvDen Le Ev GuardIs SrcIs Int.tmod Int.tdiv IntKind.wrap bandI
theorem curSpoilt_own (b : Nat) (code : List Int) (hcode : ByteL code) (c : TCur) (t w : Str) (ht : t.length ≤ 500000) (hw : 1 ≤ w.length ∧ w.length ≤ 1000) (hp : c.p ≤ 5000000) : GSpec Tryz.prog 35 [AV.ptr b 0, AV.str t, AV.str w] [.box b 45 (curC code c)] (fun x : TCur × Str => x.1.p ≤ c.p + 20 ∧ x.2.length ≤ t.length + 2) (fun x => [.box b 45 (curC code x.1)]) (fun x => AV.str x.2) := by
  refine gspec_of_awp Tryz.func35 rfl Tryz.ntmps35 rfl ?_
  refine awp_seq ?_
  refine awp_region ?_
  refine sq_plain rfl rfl rfl (w_assign rfl (ev_cs' (l := []) rfl)) ?_
  refine sq_nil ?_
  refine awp_seq ?_
  refine awp_seq ?_
  refine awp_region ?_
  refine sq_plain rfl rfl rfl (w_move rfl (ev_tmp rfl)) ?_
  refine sq_callG [0] rfl rfl rfl rfl Tryz.call30 rfl (curPick_own _ _ hcode _ _ (by omega) (by omega)) (evl_cons (ev_tmp rfl) (evl_cons ev_ci evl_nil)) rfl ?_
  intro x11 ok11
  refine sq_plain rfl rfl rfl (w_addi rfl ev_ci (ev_tmp rfl) (by first | omega | ((try simp only [List.length_map, List.length_take, List.length_cons, List.length_nil, chunks_len, szR] at *); omega) | (have hc2 := hc; simp only [Bool.and_eq_true, Bool.or_eq_true, Bool.or_eq_false_iff, Bool.and_eq_false_iff, Bool.not_eq_true', Bool.not_eq_false', decide_eq_true_eq, decide_eq_false_iff_not, beq_iff_eq, bne_iff_ne, List.length_map, List.length_take] at hc2; omega))) ?_
  refine sq_plain rfl rfl rfl (w_assign rfl (ev_tmp rfl)) ?_
  refine sq_nil ?_
  refine awp_block ?_
  refine awp_loop_i3 [(0, _), (2, _), (6, _)] _ (fun (n : Int) (cc : TCur) (u : Str) => (0 ≤ n ∧ n ≤ 2) ∧ cc.p + 6 * n ≤ c.p + 16 ∧ (u.length : Int) + n ≤ t.length + 2) (fun (n : Int) (cc : TCur) (u : Str) => [.box b 45 (curC code cc)]) (fun (n : Int) (cc : TCur) (u : Str) => [(1, AV.str u), (7, AV.int n)]) (fun (n : Int) (cc : TCur) (u : Str) => n.toNat) (1 + x11.2) (x11.1) (t) ?_ (le_eq (by rfl) ⟨rfl, rfl, rfl, rfl, rfl, trivial⟩) ?_
  · exact ⟨by omega, by omega, by omega⟩
  intro n cc u hinv
  refine awp_seq ?_
  refine awp_seq ?_
  refine awp_region ?_
  refine sq_plain rfl rfl rfl (w_move rfl (ev_tmp rfl)) ?_
  refine sq_plain rfl rfl rfl (w_gtr rfl (ev_tmp rfl) ev_ci) ?_
  refine sq_plain rfl rfl rfl (w_move rfl (ev_tmp rfl)) ?_
  refine sq_grd rfl rfl (guard_t rfl rfl rfl) (fun hc => w_move rfl (ev_tmp rfl)) ?_
  refine sq_grd rfl rfl (guard_t rfl rfl rfl) (fun hc => w_slen rfl Tryz.underlying9 (ev_whn rfl hc)) ?_
  refine sq_grd rfl rfl (guard_t rfl rfl rfl) (fun hc => w_gtr rfl (ev_whn rfl hc) ev_ci) ?_
  refine sq_plain rfl rfl rfl (w_and rfl (ev_tmp rfl) (evif_w rfl)) ?_
  refine sq_nil ?_
  refine awp_cond (ev_tmp rfl) ?_ ?_
  · intro h19
    simp only [Bool.and_eq_true, decide_eq_true_eq] at h19
    obtain ⟨hn0, hu0⟩ := h19
    refine awp_skip ?_
    refine awp_seq ?_
    refine awp_block ?_
    refine awp_seq ?_
    refine awp_region ?_
    refine sq_plain rfl rfl rfl (w_move rfl (ev_tmp rfl)) ?_
    refine sq_plain rfl rfl rfl (w_move rfl (ev_tmp rfl)) ?_
    refine sq_plain rfl rfl rfl (w_slen rfl Tryz.underlying9 (ev_tmp rfl)) ?_
    refine sq_callG [0] rfl rfl rfl rfl Tryz.call30 rfl (curPick_own _ _ hcode _ _ (by omega) (by omega)) (evl_cons (ev_tmp rfl) (evl_cons (ev_tmp rfl) evl_nil)) rfl ?_
    intro x25 ok25
    refine sq_plain rfl rfl rfl (w_assign rfl (ev_tmp rfl)) ?_
    refine sq_nil ?_
    refine awp_seq ?_
    refine awp_region ?_
    refine sq_plain rfl rfl rfl (w_move rfl (ev_tmp rfl)) ?_
    refine sq_plain rfl rfl rfl (w_move rfl (ev_tmp rfl)) ?_
    refine sq_plain rfl rfl rfl (w_move rfl (ev_tmp rfl)) ?_
    refine sq_plain rfl rfl rfl (w_slen rfl Tryz.underlying9 (ev_tmp rfl)) ?_
    refine sq_callG [0] rfl rfl rfl rfl Tryz.call30 rfl (curPick_own _ _ hcode _ _ (by omega) (by omega)) (evl_cons (ev_tmp rfl) (evl_cons (ev_tmp rfl) evl_nil)) rfl ?_
    intro x30 ok30
    obtain ⟨y, hy⟩ := get_some (show x30.2.toNat < w.length by omega)
    refine sq_plain rfl rfl rfl (w_sidx rfl Tryz.underlying9 (ev_tmp rfl) (ev_tmp rfl) (by omega) hy) ?_
    refine sq_plain rfl rfl rfl (w_bslice rfl Tryz.underlying22 Tryz.sizeOf5 Tryz.zeroValue5 rfl rfl rfl rfl (bp_cons (ev_tmp rfl) (as_ik _ _) bp_nil) rfl rfl) ?_
    refine sq_plain rfl rfl rfl (w_convB (bs := [y]) rfl Tryz.underlying22 Tryz.underlying5 Tryz.underlying9 (ev_tmp rfl)) ?_
    refine sq_plain rfl rfl rfl (w_assign rfl (ev_tmp rfl)) ?_
    refine sq_nil ?_
    refine awp_seq ?_
    refine awp_region ?_
    refine sq_plain rfl rfl rfl (w_move rfl (ev_tmp rfl)) ?_
    refine sq_callG [0] rfl rfl rfl rfl Tryz.call30 rfl (curPick_own _ _ hcode _ _ (by omega) (by omega)) (evl_cons (ev_tmp rfl) (evl_cons ev_ci evl_nil)) rfl ?_
    intro x35 ok35
    refine sq_nil ?_
    refine awp_block ?_
    refine awp_seq ?_
    refine awp_region ?_
    refine sq_plain rfl rfl rfl (w_eql rfl (ev_tmp rfl) ev_ci) ?_
    refine sq_plain rfl rfl rfl (w_assign rfl (ev_tmp rfl)) ?_
    refine sq_nil ?_
    refine awp_cond (ev_tmp rfl) ?_ ?_
    · intro h44
      have k44 := eq_of_beqt h44; try simp only [List.length_map] at k44
      refine awp_region_any (by kernel_rfl) (by kernel_rfl) rfl ?_
      refine ch_plain rfl rfl (w_move rfl (ev_tmp rfl)) ?_
      refine ch_plain rfl rfl (w_move rfl (ev_tmp rfl)) ?_
      refine ch_plain rfl rfl (w_ssl_hi rfl Tryz.underlying9 (ev_tmp rfl) (ev_tmp rfl) (by first | omega | ((try simp only [List.length_map, List.length_take, List.length_cons, List.length_nil, chunks_len, szR] at *); omega) | (have hc2 := hc; simp only [Bool.and_eq_true, Bool.or_eq_true, Bool.or_eq_false_iff, Bool.and_eq_false_iff, Bool.not_eq_true', Bool.not_eq_false', decide_eq_true_eq, decide_eq_false_iff_not, beq_iff_eq, bne_iff_ne, List.length_map, List.length_take] at hc2; omega)) (by first | omega | ((try simp only [List.length_map, List.length_take, List.length_cons, List.length_nil, chunks_len, szR] at *); omega) | (have hc2 := hc; simp only [Bool.and_eq_true, Bool.or_eq_true, Bool.or_eq_false_iff, Bool.and_eq_false_iff, Bool.not_eq_true', Bool.not_eq_false', decide_eq_true_eq, decide_eq_false_iff_not, beq_iff_eq, bne_iff_ne, List.length_map, List.length_take] at hc2; omega))) ?_
      refine ch_plain rfl rfl (w_move rfl (ev_tmp rfl)) ?_
      refine ch_plain rfl rfl (w_cat rfl (ev_tmp rfl) (ev_tmp rfl) (by first | omega | (simp only [List.length_append, List.length_take, List.length_drop, List.length_cons, List.length_nil]; omega))) ?_
      refine ch_plain rfl rfl (w_move rfl (ev_tmp rfl)) ?_
      refine ch_plain rfl rfl (w_move rfl (ev_tmp rfl)) ?_
      refine ch_plain rfl rfl (w_ssl_lo rfl Tryz.underlying9 (ev_tmp rfl) (ev_tmp rfl) (by first | omega | ((try simp only [List.length_map, List.length_take, List.length_cons, List.length_nil, chunks_len, szR] at *); omega) | (have hc2 := hc; simp only [Bool.and_eq_true, Bool.or_eq_true, Bool.or_eq_false_iff, Bool.and_eq_false_iff, Bool.not_eq_true', Bool.not_eq_false', decide_eq_true_eq, decide_eq_false_iff_not, beq_iff_eq, bne_iff_ne, List.length_map, List.length_take] at hc2; omega)) (by first | omega | ((try simp only [List.length_map, List.length_take, List.length_cons, List.length_nil, chunks_len, szR] at *); omega) | (have hc2 := hc; simp only [Bool.and_eq_true, Bool.or_eq_true, Bool.or_eq_false_iff, Bool.and_eq_false_iff, Bool.not_eq_true', Bool.not_eq_false', decide_eq_true_eq, decide_eq_false_iff_not, beq_iff_eq, bne_iff_ne, List.length_map, List.length_take] at hc2; omega))) ?_
      refine ch_plain rfl rfl (w_cat rfl (ev_tmp rfl) (ev_tmp rfl) (by first | omega | (simp only [List.length_append, List.length_take, List.length_drop, List.length_cons, List.length_nil]; omega))) ?_
      refine ch_plain rfl rfl (w_assign rfl (ev_tmp rfl)) ?_
      refine ch_nil ?_
      refine awp_region ?_
      refine sq_plain rfl rfl rfl (w_move rfl (ev_tmp rfl)) ?_
      refine sq_plain rfl rfl rfl (w_subi rfl (ev_tmp rfl) ev_ci (by first | omega | ((try simp only [List.length_map, List.length_take, List.length_cons, List.length_nil, chunks_len, szR] at *); omega) | (have hc2 := hc; simp only [Bool.and_eq_true, Bool.or_eq_true, Bool.or_eq_false_iff, Bool.and_eq_false_iff, Bool.not_eq_true', Bool.not_eq_false', decide_eq_true_eq, decide_eq_false_iff_not, beq_iff_eq, bne_iff_ne, List.length_map, List.length_take] at hc2; omega))) ?_
      refine sq_plain rfl rfl rfl (w_assign rfl (ev_tmp rfl)) ?_
      refine sq_nil ?_
      refine round_end3 n cc u (n - 1) (x35.1) ((u.take x25.2.toNat ++ [y]) ++ u.drop x25.2.toNat) ?_ ?_ (le_eq (by rfl) ⟨rfl, rfl, rfl, rfl, rfl, trivial⟩)
      · exact ⟨by omega, by omega, by (have := spoil_a u x25.2.toNat y; omega)⟩
      · omega
    · intro h44
      have k44 := ne_of_beqf h44; try simp only [List.length_map] at k44
      refine awp_seq ?_
      refine awp_region ?_
      refine sq_plain rfl rfl rfl (w_eql rfl (ev_tmp rfl) ev_ci) ?_
      refine sq_plain rfl rfl rfl (w_assign rfl (ev_tmp rfl)) ?_
      refine sq_nil ?_
      refine awp_cond (ev_tmp rfl) ?_ ?_
      · intro h55
        have k55 := eq_of_beqt h55; try simp only [List.length_map] at k55
        refine awp_region_any (by kernel_rfl) (by kernel_rfl) rfl ?_
        refine ch_plain rfl rfl (w_move rfl (ev_tmp rfl)) ?_
        refine ch_plain rfl rfl (w_move rfl (ev_tmp rfl)) ?_
        refine ch_plain rfl rfl (w_ssl_hi rfl Tryz.underlying9 (ev_tmp rfl) (ev_tmp rfl) (by first | omega | ((try simp only [List.length_map, List.length_take, List.length_cons, List.length_nil, chunks_len, szR] at *); omega) | (have hc2 := hc; simp only [Bool.and_eq_true, Bool.or_eq_true, Bool.or_eq_false_iff, Bool.and_eq_false_iff, Bool.not_eq_true', Bool.not_eq_false', decide_eq_true_eq, decide_eq_false_iff_not, beq_iff_eq, bne_iff_ne, List.length_map, List.length_take] at hc2; omega)) (by first | omega | ((try simp only [List.length_map, List.length_take, List.length_cons, List.length_nil, chunks_len, szR] at *); omega) | (have hc2 := hc; simp only [Bool.and_eq_true, Bool.or_eq_true, Bool.or_eq_false_iff, Bool.and_eq_false_iff, Bool.not_eq_true', Bool.not_eq_false', decide_eq_true_eq, decide_eq_false_iff_not, beq_iff_eq, bne_iff_ne, List.length_map, List.length_take] at hc2; omega))) ?_
        refine ch_plain rfl rfl (w_move rfl (ev_tmp rfl)) ?_
        refine ch_plain rfl rfl (w_cat rfl (ev_tmp rfl) (ev_tmp rfl) (by first | omega | (simp only [List.length_append, List.length_take, List.length_drop, List.length_cons, List.length_nil]; omega))) ?_
        refine ch_plain rfl rfl (w_move rfl (ev_tmp rfl)) ?_
        refine ch_plain rfl rfl (w_move rfl (ev_tmp rfl)) ?_
        refine ch_plain rfl rfl (w_addi rfl (ev_tmp rfl) ev_ci (by first | omega | ((try simp only [List.length_map, List.length_take, List.length_cons, List.length_nil, chunks_len, szR] at *); omega) | (have hc2 := hc; simp only [Bool.and_eq_true, Bool.or_eq_true, Bool.or_eq_false_iff, Bool.and_eq_false_iff, Bool.not_eq_true', Bool.not_eq_false', decide_eq_true_eq, decide_eq_false_iff_not, beq_iff_eq, bne_iff_ne, List.length_map, List.length_take] at hc2; omega))) ?_
        refine ch_plain rfl rfl (w_ssl_lo rfl Tryz.underlying9 (ev_tmp rfl) (ev_tmp rfl) (by first | omega | ((try simp only [List.length_map, List.length_take, List.length_cons, List.length_nil, chunks_len, szR] at *); omega) | (have hc2 := hc; simp only [Bool.and_eq_true, Bool.or_eq_true, Bool.or_eq_false_iff, Bool.and_eq_false_iff, Bool.not_eq_true', Bool.not_eq_false', decide_eq_true_eq, decide_eq_false_iff_not, beq_iff_eq, bne_iff_ne, List.length_map, List.length_take] at hc2; omega)) (by first | omega | ((try simp only [List.length_map, List.length_take, List.length_cons, List.length_nil, chunks_len, szR] at *); omega) | (have hc2 := hc; simp only [Bool.and_eq_true, Bool.or_eq_true, Bool.or_eq_false_iff, Bool.and_eq_false_iff, Bool.not_eq_true', Bool.not_eq_false', decide_eq_true_eq, decide_eq_false_iff_not, beq_iff_eq, bne_iff_ne, List.length_map, List.length_take] at hc2; omega))) ?_
        refine ch_plain rfl rfl (w_cat rfl (ev_tmp rfl) (ev_tmp rfl) (by first | omega | (simp only [List.length_append, List.length_take, List.length_drop, List.length_cons, List.length_nil]; omega))) ?_
        refine ch_plain rfl rfl (w_assign rfl (ev_tmp rfl)) ?_
        refine ch_nil ?_
        refine awp_region ?_
        refine sq_plain rfl rfl rfl (w_move rfl (ev_tmp rfl)) ?_
        refine sq_plain rfl rfl rfl (w_subi rfl (ev_tmp rfl) ev_ci (by first | omega | ((try simp only [List.length_map, List.length_take, List.length_cons, List.length_nil, chunks_len, szR] at *); omega) | (have hc2 := hc; simp only [Bool.and_eq_true, Bool.or_eq_true, Bool.or_eq_false_iff, Bool.and_eq_false_iff, Bool.not_eq_true', Bool.not_eq_false', decide_eq_true_eq, decide_eq_false_iff_not, beq_iff_eq, bne_iff_ne, List.length_map, List.length_take] at hc2; omega))) ?_
        refine sq_plain rfl rfl rfl (w_assign rfl (ev_tmp rfl)) ?_
        refine sq_nil ?_
        refine round_end3 n cc u (n - 1) (x35.1) ((u.take x25.2.toNat ++ [y]) ++ u.drop (x25.2 + 1).toNat) ?_ ?_ (le_eq (by rfl) ⟨rfl, rfl, rfl, rfl, rfl, trivial⟩)
        · exact ⟨by omega, by omega, by (rw [show (x25.2 + 1).toNat = x25.2.toNat + 1 by omega]; have := spoil_b u x25.2.toNat y; omega)⟩
        · omega
      · intro h55
        have k55 := ne_of_beqf h55; try simp only [List.length_map] at k55
        refine awp_region_any (by kernel_rfl) (by kernel_rfl) rfl ?_
        refine ch_plain rfl rfl (w_move rfl (ev_tmp rfl)) ?_
        refine ch_plain rfl rfl (w_move rfl (ev_tmp rfl)) ?_
        refine ch_plain rfl rfl (w_ssl_hi rfl Tryz.underlying9 (ev_tmp rfl) (ev_tmp rfl) (by first | omega | ((try simp only [List.length_map, List.length_take, List.length_cons, List.length_nil, chunks_len, szR] at *); omega) | (have hc2 := hc; simp only [Bool.and_eq_true, Bool.or_eq_true, Bool.or_eq_false_iff, Bool.and_eq_false_iff, Bool.not_eq_true', Bool.not_eq_false', decide_eq_true_eq, decide_eq_false_iff_not, beq_iff_eq, bne_iff_ne, List.length_map, List.length_take] at hc2; omega)) (by first | omega | ((try simp only [List.length_map, List.length_take, List.length_cons, List.length_nil, chunks_len, szR] at *); omega) | (have hc2 := hc; simp only [Bool.and_eq_true, Bool.or_eq_true, Bool.or_eq_false_iff, Bool.and_eq_false_iff, Bool.not_eq_true', Bool.not_eq_false', decide_eq_true_eq, decide_eq_false_iff_not, beq_iff_eq, bne_iff_ne, List.length_map, List.length_take] at hc2; omega))) ?_
        refine ch_plain rfl rfl (w_move rfl (ev_tmp rfl)) ?_
        refine ch_plain rfl rfl (w_move rfl (ev_tmp rfl)) ?_
        refine ch_plain rfl rfl (w_addi rfl (ev_tmp rfl) ev_ci (by first | omega | ((try simp only [List.length_map, List.length_take, List.length_cons, List.length_nil, chunks_len, szR] at *); omega) | (have hc2 := hc; simp only [Bool.and_eq_true, Bool.or_eq_true, Bool.or_eq_false_iff, Bool.and_eq_false_iff, Bool.not_eq_true', Bool.not_eq_false', decide_eq_true_eq, decide_eq_false_iff_not, beq_iff_eq, bne_iff_ne, List.length_map, List.length_take] at hc2; omega))) ?_
        refine ch_plain rfl rfl (w_ssl_lo rfl Tryz.underlying9 (ev_tmp rfl) (ev_tmp rfl) (by first | omega | ((try simp only [List.length_map, List.length_take, List.length_cons, List.length_nil, chunks_len, szR] at *); omega) | (have hc2 := hc; simp only [Bool.and_eq_true, Bool.or_eq_true, Bool.or_eq_false_iff, Bool.and_eq_false_iff, Bool.not_eq_true', Bool.not_eq_false', decide_eq_true_eq, decide_eq_false_iff_not, beq_iff_eq, bne_iff_ne, List.length_map, List.length_take] at hc2; omega)) (by first | omega | ((try simp only [List.length_map, List.length_take, List.length_cons, List.length_nil, chunks_len, szR] at *); omega) | (have hc2 := hc; simp only [Bool.and_eq_true, Bool.or_eq_true, Bool.or_eq_false_iff, Bool.and_eq_false_iff, Bool.not_eq_true', Bool.not_eq_false', decide_eq_true_eq, decide_eq_false_iff_not, beq_iff_eq, bne_iff_ne, List.length_map, List.length_take] at hc2; omega))) ?_
        refine ch_plain rfl rfl (w_cat rfl (ev_tmp rfl) (ev_tmp rfl) (by first | omega | (simp only [List.length_append, List.length_take, List.length_drop, List.length_cons, List.length_nil]; omega))) ?_
        refine ch_plain rfl rfl (w_assign rfl (ev_tmp rfl)) ?_
        refine ch_nil ?_
        refine awp_region ?_
        refine sq_plain rfl rfl rfl (w_move rfl (ev_tmp rfl)) ?_
        refine sq_plain rfl rfl rfl (w_subi rfl (ev_tmp rfl) ev_ci (by first | omega | ((try simp only [List.length_map, List.length_take, List.length_cons, List.length_nil, chunks_len, szR] at *); omega) | (have hc2 := hc; simp only [Bool.and_eq_true, Bool.or_eq_true, Bool.or_eq_false_iff, Bool.and_eq_false_iff, Bool.not_eq_true', Bool.not_eq_false', decide_eq_true_eq, decide_eq_false_iff_not, beq_iff_eq, bne_iff_ne, List.length_map, List.length_take] at hc2; omega))) ?_
        refine sq_plain rfl rfl rfl (w_assign rfl (ev_tmp rfl)) ?_
        refine sq_nil ?_
        refine round_end3 n cc u (n - 1) (x35.1) (u.take x25.2.toNat ++ u.drop (x25.2 + 1).toNat) ?_ ?_ (le_eq (by rfl) ⟨rfl, rfl, rfl, rfl, rfl, trivial⟩)
        · exact ⟨by omega, by omega, by (rw [show (x25.2 + 1).toNat = x25.2.toNat + 1 by omega]; have := spoil_c u x25.2.toNat; omega)⟩
        · omega
  · intro h19
    refine awp_exit ?_
    refine awp_seq ?_
    refine awp_region ?_
    refine sq_plain rfl rfl rfl (w_move rfl (ev_tmp rfl)) ?_
    refine sq_plain rfl rfl rfl (w_assign rfl (ev_tmp rfl)) ?_
    refine sq_nil ?_
    refine awp_ret ?_
    (refine retG [0] ((cc, u)) ?_ rfl (by first | (dsimp only; rfl) | rfl) (resR rfl (rv_tmp' rfl (by rfl))); exact ⟨show cc.p ≤ _ by omega, show u.length ≤ _ by omega⟩)
end Go.Proofs.YtdgoejkijpllpaaGreatDoor
