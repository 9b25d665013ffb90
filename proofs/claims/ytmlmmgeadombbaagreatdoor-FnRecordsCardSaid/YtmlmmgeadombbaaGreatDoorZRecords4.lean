/- Texts of the claim, part 4. -/
import Derived.ProofKit
import Derived.OpenShut
import Derived.ShutString
import Derived.ChangeOld
import Derived.Sort.Grow
import Derived.Lib.LaidTab
import Derived.Lib.ItoaNum
import Derived.Shelf.Strconv.Itoa3
import Derived.Test.YtmlmmgeadombbaaGreatDoorProg
import Derived.Lib.Split
import Derived.Lib.SplitLaws
import Derived.Lib.ConvBytes
import Derived.WideLaws
import Derived.SizedLaws
import Derived.Shelf.Strings.Split
import Derived.Shelf.Strings.Cut
import Derived.Shelf.Strings.Prefix
import Derived.Shelf.Strconv.ErrVarAll
import Derived.Shelf.Vars
import Derived.Stop.LaidErr
import Derived.Shelf.Strings.OnBuilder
import Derived.Test.YtmlmmgeadombbaaGreatDoorZRecords3

set_option linter.unusedVariables false
set_option linter.unusedSimpArgs false
set_option maxRecDepth 100000
set_option maxHeartbeats 2000000
namespace Go.Proofs.YtmlmmgeadombbaaGreatDoor
open Go Go.AV Go.M
attribute [local irreducible] OpW OpA OpS AWP FSpec ESpec GSpec OpE RetOk RetOkG RvDen Le Ev GuardIs SrcIs Int.tmod Int.tdiv IntKind.wrap
theorem ws_size {l : List TWrite} {m : Nat} (h : ∀ w ∈ l, w.Key.length ≤ 60 ∧ w.Val.length ≤ 60) (hl : l.length ≤ m) : sizeL TWrite.size l ≤ 121 * m := by
  have h1 : ∀ l : List TWrite, (∀ w ∈ l, w.Key.length ≤ 60 ∧ w.Val.length ≤ 60) → sizeL TWrite.size l ≤ 121 * l.length := by
    intro l
    induction l with
    | nil => intro _; simp [sizeL]
    | cons w l ih =>
      intro g
      have g1 := g w List.mem_cons_self
      have g2 := ih fun x hx => g x (List.mem_cons_of_mem _ hx)
      have g3 : sizeL TWrite.size (w :: l) = sizeL TWrite.size l + (w.Key.length + w.Val.length) + 1 := by unfold sizeL TWrite.size; simp; omega
      rw [g3, List.length_cons]; omega
  have := h1 l h
  have := Nat.mul_le_mul_left 121 hl
  omega
theorem rs_size {l : List Str} (h : l.length ≤ 40 ∧ ∀ t ∈ l, t.length ≤ 60) : sizeL (fun x : Str => x.length) l ≤ 2440 := by
  have h1 : ∀ l : List Str, (∀ t ∈ l, t.length ≤ 60) → sizeL (fun x : Str => x.length) l ≤ 61 * l.length := by
    intro l
    induction l with
    | nil => intro _; simp [sizeL]
    | cons w l ih =>
      intro g
      have g1 := g w List.mem_cons_self
      have g2 := ih fun x hx => g x (List.mem_cons_of_mem _ hx)
      have g3 : sizeL (fun x : Str => x.length) (w :: l) = sizeL (fun x : Str => x.length) l + w.length + 1 := by unfold sizeL; simp; omega
      rw [g3, List.length_cons]; omega
  have := h1 l h.2
  omega
theorem ws_snoc {l : List TWrite} {w : TWrite} (h : ∀ w ∈ l, w.Key.length ≤ 60 ∧ w.Val.length ≤ 60) (hw : w.Key.length ≤ 60 ∧ w.Val.length ≤ 60) : ∀ x ∈ l ++ [w], x.Key.length ≤ 60 ∧ x.Val.length ≤ 60 := fun x hx =>
  (List.mem_append.1 hx).elim (h x) fun e => by rw [List.mem_singleton.1 e]; exact hw
theorem readRec_own (b : Str) (hs : b.length ≤ 1048576) : GSpec Tryz.prog 23 [AV.str b] [] (fun _ : Value × Value => True) (fun x => TRec.ow (readRecR b).1 x) (fun x => AV.tup [AV.agg (TRec.ocs (readRecR b).1 x), AV.bool (readRecR b).2]) := by
  obtain ⟨r0, h0⟩ : ∃ r0, (readRecR b).1 = r0 := ⟨_, rfl⟩
  have hno : ¬ (goodRec r0 = true ∧ recB r0 = b) → readRecR b = (emptyR, false) := fun h => readRecR_no (by rw [h0]; exact h)
  have hop : goodRec r0 = true ∧ recB r0 = b → openR b = (recIn r0, true) := fun h => by
    have h9 := recIn_len (goodR h.1)
    rw [← h.2]; exact openR_seal (by omega)
  refine gspec_of_awp Tryz.func23 rfl Tryz.ntmps23 rfl ?_
  refine awp_seq ?_
  refine awp_region ?_
  refine sq_alloc rfl rfl rfl rfl Tryz.zeroValue37 rfl ?_
  intro b2
  refine sq_plain rfl rfl rfl (w_assign rfl ev_cb) ?_
  refine sq_nil ?_
  refine awp_seq ?_
  refine awp_region ?_
  refine sq_plain rfl rfl rfl (w_move rfl (ev_tmp rfl)) ?_
  refine sq_plain rfl rfl rfl (w_call rfl Tryz.call65 rfl (openSeal_spec _ (by first | assumption | omega)) (evl_cons (ev_tmp rfl) evl_nil)) ?_
  refine sq_plain rfl rfl rfl (w_move rfl (ev_tmp rfl)) ?_
  refine sq_plain rfl rfl rfl (w_extract rfl (ev_tmp rfl) rfl) ?_
  refine sq_plain rfl rfl rfl (w_extract rfl (ev_tmp rfl) rfl) ?_
  refine sq_plain rfl rfl rfl (w_assign rfl (ev_tmp rfl)) ?_
  refine sq_plain rfl rfl rfl (w_assign rfl (ev_tmp rfl)) ?_
  refine sq_nil ?_
  refine awp_seq ?_
  refine awp_seq ?_
  refine awp_region ?_
  refine sq_plain rfl rfl rfl (w_move rfl (ev_tmp rfl)) ?_
  refine sq_plain rfl rfl rfl (w_not rfl (ev_tmp rfl)) ?_
  refine sq_nil ?_
  refine awp_cond (ev_tmp rfl) ?_ ?_
  · intro h15
    have he : readRecR b = (emptyR, false) := hno (fun h => by rw [hop h] at h15; cases h15)
    rw [he]
    refine awp_seq ?_
    refine awp_region ?_
    refine sq_plain rfl rfl rfl (w_build (places := #[(0, 1), (1, 1), (2, 1), (3, 1), (4, 1), (5, 1), (6, 1)]) rfl Tryz.underlying37 Tryz.zeroValue37 (fun w => by kernel_rfl) rfl bp_nil rfl) ?_
    refine sq_storeB0 0 rfl rfl rfl (ev_tmp rfl) (ev_tmp rfl) (as_agg _) rfl Tryz.sizeOf37 rfl ?_
    refine sq_plain rfl rfl rfl (w_assign rfl ev_cb) ?_
    refine sq_nil ?_
    refine awp_ret ?_
    refine retG_nil 9 1 ?_
    refine retG_nil 79 3 ?_
    exact retG [1, 0] ((Value.slice none 0 0), (Value.slice none 0 0)) (trivial) rfl (by rfl) (resN rfl (by decide) (rv_cons (rv_cell (ys := _) 2 rfl rfl Tryz.isAgg37 Tryz.sizeOf37 rfl) (rv_cons (rv_tmp' rfl (by rfl)) rv_nil)))
  · intro h15
    obtain ⟨p, hp⟩ : ∃ p, (openR b).1 = p := ⟨_, rfl⟩
    have hpl : p.length ≤ 6000 := by (rcases openR_cases b with e | ⟨e, h8, _⟩; (rw [← hp, e]; exact Nat.zero_le _); (rw [← hp, e]; show (b.take _).length ≤ _; rw [List.length_take]; omega))
    have hin : goodRec r0 = true ∧ recB r0 = b → p = recIn r0 := fun h => by rw [← hp, hop h]
    rw [hp]
    refine awp_skip ?_
    refine awp_seq ?_
    refine awp_region ?_
    refine sq_plain rfl rfl rfl (w_move rfl (ev_tmp rfl)) ?_
    refine sq_plain rfl rfl rfl (w_build (places := #[(0, 1), (1, 1), (2, 1)]) rfl Tryz.underlying74 Tryz.zeroValue74 (fun w => by kernel_rfl) rfl (bp_cons (ev_tmp rfl) (as_str _) bp_nil) rfl) ?_
    refine sq_box rfl rfl rfl rfl (ev_tmp rfl) ?_
    intro b19
    refine sq_plain rfl rfl rfl (w_assign rfl (ev_tmp rfl)) ?_
    refine sq_nil ?_
    refine awp_seq ?_
    refine awp_region ?_
    refine sq_plain rfl rfl rfl (w_move rfl (ev_tmp rfl)) ?_
    refine sq_callG [0] rfl rfl rfl rfl Tryz.call66 rfl (srcNum_own _ p ⟨0, false⟩ (Nat.zero_le _) (by omega)) (evl_cons (ev_tmp rfl) evl_nil) rfl ?_
    intro x21 ok21
    refine sq_plain rfl rfl rfl (w_move rfl (ev_tmp rfl)) ?_
    refine sq_callG [0] rfl rfl rfl rfl Tryz.call66 rfl (srcNum_own _ p x21.1 ok21.1.2 (by omega)) (evl_cons (ev_tmp rfl) evl_nil) rfl ?_
    intro x23 ok23
    refine sq_plain rfl rfl rfl (w_move rfl (ev_tmp rfl)) ?_
    refine sq_callG [0] rfl rfl rfl rfl Tryz.call66 rfl (srcNum_own _ p x23.1 ok23.1.2 (by omega)) (evl_cons (ev_tmp rfl) evl_nil) rfl ?_
    intro x25 ok25
    refine sq_plain rfl rfl rfl (w_move rfl (ev_tmp rfl)) ?_
    refine sq_callG [0] rfl rfl rfl rfl Tryz.call66 rfl (srcNum_own _ p x25.1 ok25.1.2 (by omega)) (evl_cons (ev_tmp rfl) evl_nil) rfl ?_
    intro x27 ok27
    refine sq_plain rfl rfl rfl (w_move rfl (ev_tmp rfl)) ?_
    refine sq_callG [0] rfl rfl rfl rfl Tryz.call67 rfl (srcTake_own _ p x27.1 1 ok27.1.2 (by omega) (by decide)) (evl_cons (ev_tmp rfl) (evl_cons ev_ci evl_nil)) rfl ?_
    intro x29 ok29
    refine sq_plain rfl rfl rfl (w_seql rfl (ev_tmp rfl) (ev_cs' (l := [1]) rfl)) ?_
    refine sq_plain rfl rfl rfl (w_move rfl (ev_tmp rfl)) ?_
    refine sq_callG [0] rfl rfl rfl rfl Tryz.call68 rfl (srcTexts_own _ p (takeR p x27.1 1).1 (takeR_at 1 ok27.1.2).2 (by omega)) (evl_cons (ev_tmp rfl) evl_nil) rfl ?_
    intro x32 ok32
    refine sq_fact 1 rfl fun one_x32_2_2 => ?_
    refine sq_plain rfl rfl rfl (w_build (places := #[(0, 1), (1, 1), (2, 1), (3, 1), (4, 1), (5, 1), (6, 1)]) rfl Tryz.underlying37 Tryz.zeroValue37 (fun w => by kernel_rfl) rfl (bp_cons (ev_tmp rfl) (as_ik _ _) (bp_cons (ev_tmp rfl) (as_ik _ _) (bp_cons (ev_tmp rfl) (as_ik _ _) (bp_cons (ev_tmp rfl) (as_ik _ _) (bp_cons (ev_tmp rfl) (as_bool _) (bp_cons (ev_tmp rfl) (as_is one_x32_2_2) bp_nil)))))) rfl) ?_
    refine sq_alloc rfl rfl rfl rfl Tryz.zeroValue37 rfl ?_
    intro b7
    refine sq_storeB0 0 rfl rfl rfl (ev_tmp rfl) (ev_tmp rfl) (as_agg _) rfl Tryz.sizeOf37 rfl ?_
    refine sq_nil ?_
    refine awp_seq ?_
    refine awp_seq ?_
    refine awp_region ?_
    refine sq_plain rfl rfl rfl (w_move rfl (ev_tmp rfl)) ?_
    refine sq_callG [1] rfl rfl rfl rfl Tryz.call66 rfl (srcNum_own _ p x32.1 ok32.1.2 (by omega)) (evl_cons (ev_tmp rfl) evl_nil) rfl ?_
    intro x35 ok35
    have hF : goodRec r0 = true ∧ recB r0 = b → _ := fun h => head_parse (goodR h.1) (hin h) ok21 ok23 ok25 ok27 ok32 ok35
    refine sq_plain rfl rfl rfl (w_assign rfl (ev_tmp rfl)) ?_
    refine sq_nil ?_
    refine awp_block ?_
    refine awp_nilown 79 3 ?_
    refine AWP.le (le_pick [2, 1, 1, 0] rfl) ?_
    refine awp_loop_i4 [(0, _), (2, _), (3, _), (6, _), (7, _)] _ (fun (n : Nat) (s : TSrc) (ws : List TWrite) (vw : Value) => ((s.at' ≤ p.length ∧ ws.length ≤ s.at' + 1 ∧ (s.bad = false → ws.length ≤ s.at') ∧ n ≤ 1000000000) ∧ (∀ w ∈ ws, w.Key.length ≤ 60 ∧ w.Val.length ≤ 60)) ∧ (x35.1.bad = true → s.bad = true) ∧ (goodRec r0 = true ∧ recB r0 = b → WsAt p r0 n s ws)) (fun (n : Nat) (s : TSrc) (ws : List TWrite) (vw : Value) => [.box b7 37 [AV.int x21.2, AV.int x23.2, AV.int x25.2, AV.int x27.2, AV.is x32.2.2, AV.is vw, AV.bool ((takeR p x27.1 1).2 == [1])], .box b19 74 (srcC p s), .arr x32.2.2 9 1 (x32.2.1.map fun t => [AV.str t]), .arr vw 79 3 (ws.map TWrite.cs)]) (fun (n : Nat) (s : TSrc) (ws : List TWrite) (vw : Value) => [(8, AV.int n)]) (fun (n : Nat) (s : TSrc) (ws : List TWrite) (vw : Value) => n) (x35.2) (x35.1) ([]) ((Value.slice none 0 0)) ?_ (le_eq (by rfl) ⟨rfl, rfl, rfl, rfl, rfl, rfl, trivial⟩) ?_
    · exact ⟨⟨⟨ok35.1.2, Nat.zero_le _, fun _ => Nat.zero_le _, ok35.2.1⟩, fun w hw => by cases hw⟩, id, fun h => ⟨0, by rw [(hF h).2.2.2.2]; omega, rfl, (hF h).1⟩⟩
    intro n s ws vw hinv
    refine awp_seq ?_
    refine awp_seq ?_
    refine awp_region ?_
    refine sq_plain rfl rfl rfl (w_move rfl (ev_tmp rfl)) ?_
    refine sq_plain rfl rfl rfl (w_gtr rfl (ev_tmp rfl) ev_ci) ?_
    refine sq_plain rfl rfl rfl (w_move rfl (ev_tmp rfl)) ?_
    refine sq_grd rfl rfl (guard_t rfl rfl rfl) (fun hc => w_move rfl (ev_tmp rfl)) ?_
    refine sq_grd rfl rfl (guard_t rfl rfl rfl) (fun hc => w_nilB rfl (ev_whn rfl hc)) ?_
    refine sq_grd rfl rfl (guard_t rfl rfl rfl) (fun hc => w_fldBn 2 rfl Tryz.underlying74 rfl Tryz.sizeOf4 (ev_whn rfl hc) rfl) ?_
    refine sq_grd rfl rfl (guard_t rfl rfl rfl) (fun hc => w_loadB1 1 rfl (ev_whn rfl hc) rfl Tryz.isAgg4 rfl) ?_
    refine sq_grd rfl rfl (guard_t rfl rfl rfl) (fun hc => w_not rfl (ev_whn rfl hc)) ?_
    refine sq_plain rfl rfl rfl (w_and rfl (ev_tmp rfl) (evif_w rfl)) ?_
    refine sq_nil ?_
    refine awp_cond (ev_tmp rfl) ?_ ?_
    · intro h44
      have hn1 : 0 < n := by (simp only [Bool.and_eq_true, decide_eq_true_eq] at h44; omega)
      have hsb : s.bad = false := by (simp only [Bool.and_eq_true, Bool.not_eq_true'] at h44; exact h44.2)
      refine awp_skip ?_
      refine awp_seq ?_
      refine awp_block ?_
      refine AWP.le (le_pick [2, 0, 1, 0] rfl) ?_
      refine awp_region_mix _ [(0, false), (1, false), (2, false), (4, false), (7, false), (3, true), (5, true), (6, false), (8, true), (9, false), (10, false), (11, true)] (by kernel_rfl) (by kernel_rfl) rfl (invx_take 2) ?_
      refine bc_plain rfl rfl rfl (fun ext => w_fldBn 5 rfl Tryz.underlying37 rfl Tryz.sizeOf35 (ev_tmp rfl) rfl) ?_
      refine bc_plain rfl rfl rfl (fun ext => w_loadB1 1 rfl (ev_tmp rfl) rfl Tryz.isAgg35 rfl) ?_
      refine bc_plain rfl rfl rfl (fun ext => w_move rfl (ev_tmp rfl)) ?_
      refine bc_plain rfl rfl rfl (fun ext => w_move rfl (ev_tmp rfl)) ?_
      refine bc_plain rfl rfl rfl (fun ext => w_move rfl (ev_tmp rfl)) ?_
      refine bc_eff rfl rfl rfl (opE_call [3] rfl Tryz.call69 rfl (srcText_own _ p s hinv.1.1.1 (by omega)) (evl_cons (ev_tmp rfl) evl_nil) rfl) (fun a _ => (by first | exact invx_mk rfl | exact invx_mk (List.append_assoc _ _ _) | exact invx_all)) ?_
      intro x50 ok50
      refine bc_eff rfl rfl rfl (opE_call [4] rfl Tryz.call67 rfl (srcTake_own _ p x50.1 1 ok50.1.2 (by omega) (by decide)) (evl_cons (ev_tmp rfl) (evl_cons ev_ci evl_nil)) rfl) (fun a _ => (by first | exact invx_mk rfl | exact invx_mk (List.append_assoc _ _ _) | exact invx_all)) ?_
      intro x52 ok52
      refine bc_plain rfl rfl rfl (fun ext => w_seql rfl (ev_tmp rfl) (ev_cs' (l := [1]) rfl)) ?_
      refine bc_eff rfl rfl rfl (opE_call [4] rfl Tryz.call69 rfl (srcText_own _ p (takeR p x50.1 1).1 (takeR_at 1 ok50.1.2).2 (by omega)) (evl_cons (ev_tmp rfl) evl_nil) rfl) (fun a _ => (by first | exact invx_mk rfl | exact invx_mk (List.append_assoc _ _ _) | exact invx_all)) ?_
      intro x55 ok55
      refine bc_plain rfl rfl rfl (fun ext => w_build (places := #[(0, 1), (1, 1), (2, 1)]) rfl Tryz.underlying79 Tryz.zeroValue79 (fun w => by kernel_rfl) rfl (bp_cons (ev_tmp rfl) (as_str _) (bp_cons (ev_tmp rfl) (as_bool _) (bp_cons (ev_tmp rfl) (as_str _) bp_nil))) rfl) ?_
      refine bc_plain rfl rfl rfl (fun ext => w_bslice rfl Tryz.underlying35 Tryz.sizeOf79 Tryz.zeroValue79 rfl rfl rfl rfl (bp_cons (ev_tmp rfl) (as_agg _) bp_nil) rfl rfl) ?_
      refine bc_eff rfl rfl rfl (opE_append (by' := 40) 2 rfl Tryz.underlying35 Tryz.type79 rfl rfl rfl rfl rfl rfl (ev_tmp rfl) (ev_tmp rfl) rfl (by first | omega | ((try simp only [List.length_map, List.length_take, List.length_cons, List.length_nil, chunks_len, szR] at *); omega) | (have hc2 := hc; simp only [Bool.and_eq_true, Bool.or_eq_true, Bool.or_eq_false_iff, Bool.and_eq_false_iff, Bool.not_eq_true', Bool.not_eq_false', decide_eq_true_eq, decide_eq_false_iff_not, beq_iff_eq, bne_iff_ne, List.length_map, List.length_take] at hc2; omega))) (fun a _ => (by first | exact invx_mk rfl | exact invx_mk (List.append_assoc _ _ _) | exact invx_all)) ?_
      intro v58_3 _
      refine bc_nil ?_
      refine sq_plain rfl rfl rfl (w_fldBn 5 rfl Tryz.underlying37 rfl Tryz.sizeOf35 (ev_tmp rfl) rfl) ?_
      refine sq_fact 2 rfl fun one_v58_3 => ?_
      refine sq_storeB1 1 rfl rfl rfl (ev_tmp rfl) (ev_tmp rfl) (as_is one_v58_3) rfl Tryz.sizeOf35 rfl ?_
      refine sq_nil ?_
      refine awp_region ?_
      refine sq_plain rfl rfl rfl (w_move rfl (ev_tmp rfl)) ?_
      refine sq_plain rfl rfl rfl (w_subi rfl (ev_tmp rfl) ev_ci (by first | omega | ((try simp only [List.length_map, List.length_take, List.length_cons, List.length_nil, chunks_len, szR] at *); omega) | (have hc2 := hc; simp only [Bool.and_eq_true, Bool.or_eq_true, Bool.or_eq_false_iff, Bool.and_eq_false_iff, Bool.not_eq_true', Bool.not_eq_false', decide_eq_true_eq, decide_eq_false_iff_not, beq_iff_eq, bne_iff_ne, List.length_map, List.length_take] at hc2; omega))) ?_
      refine sq_plain rfl rfl rfl (w_assign rfl (ev_tmp rfl)) ?_
      refine sq_nil ?_
      refine round_end4 n s ws vw (n - 1) (x55.1) (ws ++ [⟨x50.2, x55.2, ((takeR p x50.1 1).2 == [1])⟩]) (v58_3) ?_ ?_ (Le.trans (le_pick [1, 3, 0, 0] rfl) (le_eq (by (rw [List.map_append]; rfl)) ⟨congrArg (fun z => some (AV.int z)) (by omega), rfl, rfl, rfl, rfl, rfl, trivial⟩))
      · (have g1 := hinv.1.1.2.2.1 hsb; have g2 := ok50.1; have g3 := takeR_at 1 ok50.1.2; have g4 := ok55.1; refine ⟨⟨⟨g4.2, by rw [List.length_append, List.length_cons, List.length_nil]; omega, fun h9 => by have g5 := text_grow ok55 h9; rw [List.length_append, List.length_cons, List.length_nil]; omega, by omega⟩, ws_snoc hinv.1.2 ⟨ok50.2.1, ok55.2.1⟩⟩, fun h9 => (by rw [hinv.2.1 h9] at hsb; cases hsb), fun h => wsAt_step (goodR h.1) (hinv.2.2 h) hn1 ok50 ok50.1.2 ok55⟩)
      · omega
    · intro h44
      have hend : n = 0 ∨ s.bad = true := by (rw [Bool.and_eq_false_iff] at h44; rcases h44 with h | h; (left; simp at h; omega); (right; simpa using h))
      obtain ⟨rr, hrr⟩ : ∃ rr : TRec, rr = ⟨x21.2, x23.2, x25.2, x27.2, x32.2.1, ws, ((takeR p x27.1 1).2 == [1])⟩ := ⟨_, rfl⟩
      have hsz : s.bad = false → rr.size ≤ 1048576 := fun h9 => by (have g1 : x35.1.bad = false := (by cases e : x35.1.bad with | false => rfl | true => rw [hinv.2.1 e] at h9; cases h9); have g2 : x32.1.bad = false := (by cases e : x32.1.bad with | false => rfl | true => rw [num_bad ok35 e] at g1; cases g1); have g3 := rs_size (texts_lens ok32 g2); have g4 := ws_size (m := 6001) hinv.1.2 (by have g5 := hinv.1.1; omega); rw [hrr]; unfold TRec.size; dsimp only; omega)
      have hr0 : goodRec r0 = true ∧ recB r0 = b → rr = r0 := fun h => by (obtain ⟨_, ⟨e1, e2, e3, e4⟩, e5, e6, _⟩ := hF h; have e7 := (wsAt_end (hinv.2.2 h) hend).2; have g := goodR h.1; have g1 := g.kind; have g2 := g.txn; have g3 := g.time; have g4 := g.lead; rw [hrr]; cases r0; simp only [TRec.mk.injEq] at *; exact ⟨by omega, by omega, by omega, by omega, e5, e7, e6⟩)
      have hbd : goodRec r0 = true ∧ recB r0 = b → s.bad = false := fun h => (wsAt_end (hinv.2.2 h) hend).1
      subst hrr
      refine awp_exit ?_
      refine awp_seq ?_
      refine awp_seq ?_
      refine awp_region ?_
      refine sq_plain rfl rfl rfl (w_move rfl (ev_tmp rfl)) ?_
      refine sq_plain rfl rfl rfl (w_nilB rfl (ev_tmp rfl)) ?_
      refine sq_plain rfl rfl rfl (w_fldBn 2 rfl Tryz.underlying74 rfl Tryz.sizeOf4 (ev_tmp rfl) rfl) ?_
      refine sq_plain rfl rfl rfl (w_loadB1 1 rfl (ev_tmp rfl) rfl Tryz.isAgg4 rfl) ?_
      refine sq_plain rfl rfl rfl (w_move rfl (ev_tmp rfl)) ?_
      refine sq_grd rfl rfl (guard_f rfl rfl rfl) (fun hc => w_loadA 0 rfl (ev_tmp rfl) rfl Tryz.isAgg37 Tryz.sizeOf37 rfl) ?_
      refine sq_grd rfl rfl (guard_f rfl rfl rfl) (fun hc => w_callB rfl Tryz.call21 rfl (goodRec_spec _ (hsz (by simpa using hc))) (flat_bool _) (evlb_cons (evb_lt (ev_whn rfl hc) (lt_agg (lc_cons lt_refl (lc_cons lt_refl (lc_cons lt_refl (lc_cons lt_refl (lc_cons (lt_arr (List.mem_of_getElem? (i := 2) rfl) le_refl_e) (lc_cons (lt_arr (List.mem_of_getElem? (i := 3) rfl) le_refl_e) (lc_cons lt_refl lc_nil))))))))) evlb_nil)) ?_
      refine sq_grd rfl rfl (guard_f rfl rfl rfl) (fun hc => w_not rfl (ev_whn rfl hc)) ?_
      refine sq_plain rfl rfl rfl (w_or rfl (ev_tmp rfl) (evif_w rfl)) ?_
      refine sq_plain rfl rfl rfl (w_move rfl (ev_tmp rfl)) ?_
      refine sq_grd rfl rfl (guard_f rfl rfl rfl) (fun hc => w_loadA 0 rfl (ev_tmp rfl) rfl Tryz.isAgg37 Tryz.sizeOf37 rfl) ?_
      refine sq_grd rfl rfl (guard_f rfl rfl rfl) (fun hc => w_callB rfl Tryz.call55 rfl (recBytes_spec ⟨x21.2, x23.2, x25.2, x27.2, x32.2.1, ws, ((takeR p x27.1 1).2 == [1])⟩ (by simp only [Bool.not_eq_true', Bool.or_eq_false_iff, Bool.not_eq_false'] at hc; exact hc.2)) (flat_str _) (evlb_cons (evb_lt (ev_whn rfl hc) (lt_agg (lc_cons lt_refl (lc_cons lt_refl (lc_cons lt_refl (lc_cons lt_refl (lc_cons (lt_arr (List.mem_of_getElem? (i := 2) rfl) le_refl_e) (lc_cons (lt_arr (List.mem_of_getElem? (i := 3) rfl) le_refl_e) (lc_cons lt_refl lc_nil))))))))) evlb_nil)) ?_
      refine sq_grd rfl rfl (guard_f rfl rfl rfl) (fun hc => w_move rfl (ev_tmp rfl)) ?_
      refine sq_grd rfl rfl (guard_f rfl rfl rfl) (fun hc => w_sneq rfl (ev_whn rfl hc) (ev_whn rfl hc)) ?_
      refine sq_plain rfl rfl rfl (w_or rfl (ev_tmp rfl) (evif_w rfl)) ?_
      refine sq_nil ?_
      refine awp_cond (ev_tmp rfl) ?_ ?_
      · intro h74
        have he := readRec_end h0 hr0 hbd h74
        rw [he]
        refine awp_seq ?_
        refine awp_region ?_
        refine sq_plain rfl rfl rfl (w_build (places := #[(0, 1), (1, 1), (2, 1), (3, 1), (4, 1), (5, 1), (6, 1)]) rfl Tryz.underlying37 Tryz.zeroValue37 (fun w => by kernel_rfl) rfl bp_nil rfl) ?_
        refine sq_storeB0 4 rfl rfl rfl (ev_tmp rfl) (ev_tmp rfl) (as_agg _) rfl Tryz.sizeOf37 rfl ?_
        refine sq_plain rfl rfl rfl (w_assign rfl ev_cb) ?_
        refine sq_nil ?_
        refine awp_ret ?_
        refine retG_nil 9 1 ?_
        refine retG_nil 79 3 ?_
        exact retG [1, 0] ((Value.slice none 0 0), (Value.slice none 0 0)) (trivial) rfl (by rfl) (resN rfl (by decide) (rv_cons (rv_cell (ys := _) 6 rfl rfl Tryz.isAgg37 Tryz.sizeOf37 rfl) (rv_cons (rv_tmp' rfl (by rfl)) rv_nil)))
      · intro h74
        simp only [Bool.or_eq_false_iff, Bool.not_eq_false', bne_eq_false_iff_eq] at h74
        have he := readRecR_of h74.1.2
        rw [h74.2] at he
        rw [he]
        refine awp_skip ?_
        refine awp_seq ?_
        refine awp_region ?_
        refine sq_plain rfl rfl rfl (w_loadA 0 rfl (ev_tmp rfl) rfl Tryz.isAgg37 Tryz.sizeOf37 rfl) ?_
        refine sq_storeB0 4 rfl rfl rfl (ev_tmp rfl) (ev_tmp rfl) (as_agg _) rfl Tryz.sizeOf37 rfl ?_
        refine sq_plain rfl rfl rfl (w_assign rfl ev_cb) ?_
        refine sq_nil ?_
        refine awp_ret ?_
        exact retG [2, 2] (x32.2.2, vw) (trivial) rfl (by rfl) (resN rfl (by decide) (rv_cons (rv_cell (ys := _) 4 rfl rfl Tryz.isAgg37 Tryz.sizeOf37 rfl) (rv_cons (rv_tmp' rfl (by rfl)) rv_nil)))
theorem readRecS_own (b : Str) (hs : b.length ≤ 1048576) : GSpec Tryz.prog 28 [AV.str b] [] (fun _ : Value × Value => True) (fun x => TRec.ow (readRecR b).1 x) (fun x => AV.tup [AV.agg (TRec.ocs (readRecR b).1 x), AV.bool (readRecR b).2]) := by
  obtain ⟨r0, h0⟩ : ∃ r0, (readRecR b).1 = r0 := ⟨_, rfl⟩
  have hno : ¬ (goodRec r0 = true ∧ recB r0 = b) → readRecR b = (emptyR, false) := fun h => readRecR_no (by rw [h0]; exact h)
  have hop : goodRec r0 = true ∧ recB r0 = b → openR b = (recIn r0, true) := fun h => by
    have h9 := recIn_len (goodR h.1)
    rw [← h.2]; exact openR_seal (by omega)
  refine gspec_of_awp Tryz.func28 rfl Tryz.ntmps28 rfl ?_
  refine awp_seq ?_
  refine awp_region ?_
  refine sq_alloc rfl rfl rfl rfl Tryz.zeroValue37 rfl ?_
  intro b2
  refine sq_plain rfl rfl rfl (w_assign rfl ev_cb) ?_
  refine sq_nil ?_
  refine awp_seq ?_
  refine awp_region ?_
  refine sq_plain rfl rfl rfl (w_move rfl (ev_tmp rfl)) ?_
  refine sq_plain rfl rfl rfl (w_call rfl Tryz.call80 rfl (openSealS_spec _ (by first | assumption | omega)) (evl_cons (ev_tmp rfl) evl_nil)) ?_
  refine sq_plain rfl rfl rfl (w_move rfl (ev_tmp rfl)) ?_
  refine sq_plain rfl rfl rfl (w_extract rfl (ev_tmp rfl) rfl) ?_
  refine sq_plain rfl rfl rfl (w_extract rfl (ev_tmp rfl) rfl) ?_
  refine sq_plain rfl rfl rfl (w_assign rfl (ev_tmp rfl)) ?_
  refine sq_plain rfl rfl rfl (w_assign rfl (ev_tmp rfl)) ?_
  refine sq_nil ?_
  refine awp_seq ?_
  refine awp_seq ?_
  refine awp_region ?_
  refine sq_plain rfl rfl rfl (w_move rfl (ev_tmp rfl)) ?_
  refine sq_plain rfl rfl rfl (w_not rfl (ev_tmp rfl)) ?_
  refine sq_nil ?_
  refine awp_cond (ev_tmp rfl) ?_ ?_
  · intro h16
    have he : readRecR b = (emptyR, false) := hno (fun h => by rw [hop h] at h16; cases h16)
    rw [he]
    refine awp_seq ?_
    refine awp_region ?_
    refine sq_plain rfl rfl rfl (w_build (places := #[(0, 1), (1, 1), (2, 1), (3, 1), (4, 1), (5, 1), (6, 1)]) rfl Tryz.underlying37 Tryz.zeroValue37 (fun w => by kernel_rfl) rfl bp_nil rfl) ?_
    refine sq_storeB0 0 rfl rfl rfl (ev_tmp rfl) (ev_tmp rfl) (as_agg _) rfl Tryz.sizeOf37 rfl ?_
    refine sq_plain rfl rfl rfl (w_assign rfl ev_cb) ?_
    refine sq_nil ?_
    refine awp_ret ?_
    refine retG_nil 9 1 ?_
    refine retG_nil 79 3 ?_
    exact retG [1, 0] ((Value.slice none 0 0), (Value.slice none 0 0)) (trivial) rfl (by rfl) (resN rfl (by decide) (rv_cons (rv_cell (ys := _) 2 rfl rfl Tryz.isAgg37 Tryz.sizeOf37 rfl) (rv_cons (rv_tmp' rfl (by rfl)) rv_nil)))
  · intro h16
    obtain ⟨p, hp⟩ : ∃ p, (openR b).1 = p := ⟨_, rfl⟩
    have hpl : p.length ≤ 6000 := by (rcases openR_cases b with e | ⟨e, h8, _⟩; (rw [← hp, e]; exact Nat.zero_le _); (rw [← hp, e]; show (b.take _).length ≤ _; rw [List.length_take]; omega))
    have hin : goodRec r0 = true ∧ recB r0 = b → p = recIn r0 := fun h => by rw [← hp, hop h]
    rw [hp]
    refine awp_skip ?_
    refine awp_seq ?_
    refine awp_region ?_
    refine sq_plain rfl rfl rfl (w_move rfl (ev_tmp rfl)) ?_
    refine sq_plain rfl rfl rfl (w_build (places := #[(0, 1), (1, 1), (2, 1)]) rfl Tryz.underlying88 Tryz.zeroValue88 (fun w => by kernel_rfl) rfl (bp_cons (ev_tmp rfl) (as_str _) bp_nil) rfl) ?_
    refine sq_box rfl rfl rfl rfl (ev_tmp rfl) ?_
    intro b20
    refine sq_plain rfl rfl rfl (w_assign rfl (ev_tmp rfl)) ?_
    refine sq_nil ?_
    refine awp_seq ?_
    refine awp_region ?_
    refine sq_plain rfl rfl rfl (w_move rfl (ev_tmp rfl)) ?_
    refine sq_callG [0] rfl rfl rfl rfl Tryz.call81 rfl (l1Num_own _ p ⟨0, false⟩ (Nat.zero_le _) (by omega)) (evl_cons (ev_tmp rfl) evl_nil) rfl ?_
    intro x22 ok22
    refine sq_plain rfl rfl rfl (w_move rfl (ev_tmp rfl)) ?_
    refine sq_callG [0] rfl rfl rfl rfl Tryz.call81 rfl (l1Num_own _ p x22.1 ok22.1.2 (by omega)) (evl_cons (ev_tmp rfl) evl_nil) rfl ?_
    intro x24 ok24
    refine sq_plain rfl rfl rfl (w_move rfl (ev_tmp rfl)) ?_
    refine sq_callG [0] rfl rfl rfl rfl Tryz.call81 rfl (l1Num_own _ p x24.1 ok24.1.2 (by omega)) (evl_cons (ev_tmp rfl) evl_nil) rfl ?_
    intro x26 ok26
    refine sq_plain rfl rfl rfl (w_move rfl (ev_tmp rfl)) ?_
    refine sq_callG [0] rfl rfl rfl rfl Tryz.call81 rfl (l1Num_own _ p x26.1 ok26.1.2 (by omega)) (evl_cons (ev_tmp rfl) evl_nil) rfl ?_
    intro x28 ok28
    refine sq_plain rfl rfl rfl (w_build (places := #[(0, 1), (1, 1), (2, 1), (3, 1), (4, 1), (5, 1), (6, 1)]) rfl Tryz.underlying37 Tryz.zeroValue37 (fun w => by kernel_rfl) rfl (bp_cons (ev_tmp rfl) (as_ik _ _) (bp_cons (ev_tmp rfl) (as_ik _ _) (bp_cons (ev_tmp rfl) (as_ik _ _) (bp_cons (ev_tmp rfl) (as_ik _ _) bp_nil)))) rfl) ?_
    refine sq_alloc rfl rfl rfl rfl Tryz.zeroValue37 rfl ?_
    intro b7
    refine sq_storeB0 0 rfl rfl rfl (ev_tmp rfl) (ev_tmp rfl) (as_agg _) rfl Tryz.sizeOf37 rfl ?_
    refine sq_nil ?_
    refine awp_seq ?_
    refine awp_region ?_
    refine sq_plain rfl rfl rfl (w_move rfl (ev_tmp rfl)) ?_
    refine sq_callG [1] rfl rfl rfl rfl Tryz.call82 rfl (l1One_own _ p x28.1 ok28.1.2 (by omega)) (evl_cons (ev_tmp rfl) evl_nil) rfl ?_
    intro x31 ok31
    refine sq_plain rfl rfl rfl (w_eql rfl (ev_tmp rfl) ev_ci) ?_
    refine sq_plain rfl rfl rfl (w_fldBn 6 rfl Tryz.underlying37 rfl Tryz.sizeOf4 (ev_tmp rfl) rfl) ?_
    refine sq_storeB1 1 rfl rfl rfl (ev_tmp rfl) (ev_tmp rfl) (as_bool _) rfl Tryz.sizeOf4 rfl ?_
    refine sq_nil ?_
    refine awp_seq ?_
    refine awp_region ?_
    refine sq_plain rfl rfl rfl (w_move rfl (ev_tmp rfl)) ?_
    refine sq_callG [0] rfl rfl rfl rfl Tryz.call83 rfl (l1Texts_own _ p (oneR p x28.1).1 (oneR_at ok28.1.2).2 (by omega)) (evl_cons (ev_tmp rfl) evl_nil) rfl ?_
    intro x35 ok35
    refine sq_plain rfl rfl rfl (w_fldBn 4 rfl Tryz.underlying37 rfl Tryz.sizeOf34 (ev_tmp rfl) rfl) ?_
    refine sq_fact 1 rfl fun one_x35_2_2 => ?_
    refine sq_storeB1 2 rfl rfl rfl (ev_tmp rfl) (ev_tmp rfl) (as_is one_x35_2_2) rfl Tryz.sizeOf34 rfl ?_
    refine sq_nil ?_
    refine awp_seq ?_
    refine awp_seq ?_
    refine awp_region ?_
    refine sq_plain rfl rfl rfl (w_move rfl (ev_tmp rfl)) ?_
    refine sq_callG [0] rfl rfl rfl rfl Tryz.call81 rfl (l1Num_own _ p x35.1 ok35.1.2 (by omega)) (evl_cons (ev_tmp rfl) evl_nil) rfl ?_
    intro x38 ok38
    have hF : goodRec r0 = true ∧ recB r0 = b → _ := fun h => head_parseS (goodR h.1) (hin h) ok22 ok24 ok26 ok28 ok35 ok38
    refine sq_plain rfl rfl rfl (w_assign rfl (ev_tmp rfl)) ?_
    refine sq_nil ?_
    refine awp_block ?_
    refine awp_nilown 79 3 ?_
    refine AWP.le (le_pick [3, 1, 1, 0] rfl) ?_
    refine awp_loop_i4 [(0, _), (2, _), (3, _), (6, _), (7, _)] _ (fun (n : Nat) (s : TSrc) (ws : List TWrite) (vw : Value) => ((s.at' ≤ p.length ∧ ws.length ≤ s.at' + 1 ∧ (s.bad = false → ws.length ≤ s.at') ∧ n ≤ 1000000000) ∧ (∀ w ∈ ws, w.Key.length ≤ 60 ∧ w.Val.length ≤ 60)) ∧ (x38.1.bad = true → s.bad = true) ∧ (goodRec r0 = true ∧ recB r0 = b → WsAt p r0 n s ws)) (fun (n : Nat) (s : TSrc) (ws : List TWrite) (vw : Value) => [.box b7 37 [AV.int x22.2, AV.int x24.2, AV.int x26.2, AV.int x28.2, AV.is x35.2.2, AV.is vw, AV.bool (((oneR p x28.1).2 : Int) == 1)], .box b20 88 (srcC p s), .arr x35.2.2 9 1 (x35.2.1.map fun t => [AV.str t]), .arr vw 79 3 (ws.map TWrite.cs)]) (fun (n : Nat) (s : TSrc) (ws : List TWrite) (vw : Value) => [(8, AV.int n)]) (fun (n : Nat) (s : TSrc) (ws : List TWrite) (vw : Value) => n) (x38.2) (x38.1) ([]) ((Value.slice none 0 0)) ?_ (le_eq (by rfl) ⟨rfl, rfl, rfl, rfl, rfl, rfl, trivial⟩) ?_
    · exact ⟨⟨⟨ok38.1.2, Nat.zero_le _, fun _ => Nat.zero_le _, ok38.2.1⟩, fun w hw => by cases hw⟩, id, fun h => ⟨0, by rw [(hF h).2.2.2.2]; omega, rfl, (hF h).1⟩⟩
    intro n s ws vw hinv
    refine awp_seq ?_
    refine awp_seq ?_
    refine awp_region ?_
    refine sq_plain rfl rfl rfl (w_move rfl (ev_tmp rfl)) ?_
    refine sq_plain rfl rfl rfl (w_gtr rfl (ev_tmp rfl) ev_ci) ?_
    refine sq_plain rfl rfl rfl (w_move rfl (ev_tmp rfl)) ?_
    refine sq_grd rfl rfl (guard_t rfl rfl rfl) (fun hc => w_move rfl (ev_tmp rfl)) ?_
    refine sq_grd rfl rfl (guard_t rfl rfl rfl) (fun hc => w_nilB rfl (ev_whn rfl hc)) ?_
    refine sq_grd rfl rfl (guard_t rfl rfl rfl) (fun hc => w_fldBn 2 rfl Tryz.underlying88 rfl Tryz.sizeOf4 (ev_whn rfl hc) rfl) ?_
    refine sq_grd rfl rfl (guard_t rfl rfl rfl) (fun hc => w_loadB1 1 rfl (ev_whn rfl hc) rfl Tryz.isAgg4 rfl) ?_
    refine sq_grd rfl rfl (guard_t rfl rfl rfl) (fun hc => w_not rfl (ev_whn rfl hc)) ?_
    refine sq_plain rfl rfl rfl (w_and rfl (ev_tmp rfl) (evif_w rfl)) ?_
    refine sq_nil ?_
    refine awp_cond (ev_tmp rfl) ?_ ?_
    · intro h47
      have hn1 : 0 < n := by (simp only [Bool.and_eq_true, decide_eq_true_eq] at h47; omega)
      have hsb : s.bad = false := by (simp only [Bool.and_eq_true, Bool.not_eq_true'] at h47; exact h47.2)
      refine awp_skip ?_
      refine awp_seq ?_
      refine awp_block ?_
      refine awp_seq ?_
      refine awp_region ?_
      refine sq_plain rfl rfl rfl (w_move rfl (ev_tmp rfl)) ?_
      refine sq_callG [1] rfl rfl rfl rfl Tryz.call84 rfl (l1Text_own _ p s hinv.1.1.1 (by omega)) (evl_cons (ev_tmp rfl) evl_nil) rfl ?_
      intro x51 ok51
      refine sq_plain rfl rfl rfl (w_build (places := #[(0, 1), (1, 1), (2, 1)]) rfl Tryz.underlying79 Tryz.zeroValue79 (fun w => by kernel_rfl) rfl (bp_cons (ev_tmp rfl) (as_str _) bp_nil) rfl) ?_
      refine sq_alloc rfl rfl rfl rfl Tryz.zeroValue79 rfl ?_
      intro b9
      refine sq_storeB0 0 rfl rfl rfl (ev_tmp rfl) (ev_tmp rfl) (as_agg _) rfl Tryz.sizeOf79 rfl ?_
      refine sq_nil ?_
      refine awp_seq ?_
      refine awp_region ?_
      refine sq_plain rfl rfl rfl (w_move rfl (ev_tmp rfl)) ?_
      refine sq_callG [1] rfl rfl rfl rfl Tryz.call82 rfl (l1One_own _ p x51.1 ok51.1.2 (by omega)) (evl_cons (ev_tmp rfl) evl_nil) rfl ?_
      intro x54 ok54
      refine sq_plain rfl rfl rfl (w_eql rfl (ev_tmp rfl) ev_ci) ?_
      refine sq_plain rfl rfl rfl (w_fldBn 2 rfl Tryz.underlying79 rfl Tryz.sizeOf4 (ev_tmp rfl) rfl) ?_
      refine sq_storeB1 1 rfl rfl rfl (ev_tmp rfl) (ev_tmp rfl) (as_bool _) rfl Tryz.sizeOf4 rfl ?_
      refine sq_nil ?_
      refine awp_seq ?_
      refine awp_region ?_
      refine sq_plain rfl rfl rfl (w_move rfl (ev_tmp rfl)) ?_
      refine sq_callG [0] rfl rfl rfl rfl Tryz.call84 rfl (l1Text_own _ p (oneR p x51.1).1 (oneR_at ok51.1.2).2 (by omega)) (evl_cons (ev_tmp rfl) evl_nil) rfl ?_
      intro x58 ok58
      refine sq_plain rfl rfl rfl (w_fldBn 1 rfl Tryz.underlying79 rfl Tryz.sizeOf9 (ev_tmp rfl) rfl) ?_
      refine sq_storeB1 1 rfl rfl rfl (ev_tmp rfl) (ev_tmp rfl) (as_str _) rfl Tryz.sizeOf9 rfl ?_
      refine sq_nil ?_
      refine awp_region ?_
      refine sq_plain rfl rfl rfl (w_fldBn 5 rfl Tryz.underlying37 rfl Tryz.sizeOf35 (ev_tmp rfl) rfl) ?_
      refine sq_plain rfl rfl rfl (w_loadB1 2 rfl (ev_tmp rfl) rfl Tryz.isAgg35 rfl) ?_
      refine sq_plain rfl rfl rfl (w_loadA 1 rfl (ev_tmp rfl) rfl Tryz.isAgg79 Tryz.sizeOf79 rfl) ?_
      refine sq_plain rfl rfl rfl (w_bslice rfl Tryz.underlying35 Tryz.sizeOf79 Tryz.zeroValue79 rfl rfl rfl rfl (bp_cons (ev_tmp rfl) (as_agg _) bp_nil) rfl rfl) ?_
      refine sq_append (by' := 40) 4 rfl rfl rfl rfl Tryz.underlying35 Tryz.type79 rfl rfl rfl rfl rfl rfl (ev_tmp rfl) (ev_tmp rfl) rfl (by first | omega | ((try simp only [List.length_map, List.length_take, List.length_cons, List.length_nil, chunks_len, szR] at *); omega) | (have hc2 := hc; simp only [Bool.and_eq_true, Bool.or_eq_true, Bool.or_eq_false_iff, Bool.and_eq_false_iff, Bool.not_eq_true', Bool.not_eq_false', decide_eq_true_eq, decide_eq_false_iff_not, beq_iff_eq, bne_iff_ne, List.length_map, List.length_take] at hc2; omega)) ?_
      intro v64_3
      refine sq_plain rfl rfl rfl (w_fldBn 5 rfl Tryz.underlying37 rfl Tryz.sizeOf35 (ev_tmp rfl) rfl) ?_
      refine sq_fact 4 rfl fun one_v64_3 => ?_
      refine sq_storeB1 2 rfl rfl rfl (ev_tmp rfl) (ev_tmp rfl) (as_is one_v64_3) rfl Tryz.sizeOf35 rfl ?_
      refine sq_nil ?_
      refine awp_region ?_
      refine sq_plain rfl rfl rfl (w_move rfl (ev_tmp rfl)) ?_
      refine sq_plain rfl rfl rfl (w_subi rfl (ev_tmp rfl) ev_ci (by first | omega | ((try simp only [List.length_map, List.length_take, List.length_cons, List.length_nil, chunks_len, szR] at *); omega) | (have hc2 := hc; simp only [Bool.and_eq_true, Bool.or_eq_true, Bool.or_eq_false_iff, Bool.and_eq_false_iff, Bool.not_eq_true', Bool.not_eq_false', decide_eq_true_eq, decide_eq_false_iff_not, beq_iff_eq, bne_iff_ne, List.length_map, List.length_take] at hc2; omega))) ?_
      refine sq_plain rfl rfl rfl (w_assign rfl (ev_tmp rfl)) ?_
      refine sq_nil ?_
      refine round_end4 n s ws vw (n - 1) (x58.1) (ws ++ [⟨x51.2, x58.2, (((oneR p x51.1).2 : Int) == 1)⟩]) (v64_3) ?_ ?_ (Le.trans (le_pick [1, 1, 0, 0, 0] rfl) (le_dropeq 1 (by (rw [List.map_append]; rfl)) ⟨congrArg (fun z => some (AV.int z)) (by omega), rfl, rfl, rfl, rfl, rfl, trivial⟩))
      · (have g1 := hinv.1.1.2.2.1 hsb; have g2 := ok51.1; have g3 := oneR_at ok51.1.2; have g4 := ok58.1; refine ⟨⟨⟨g4.2, by rw [List.length_append, List.length_cons, List.length_nil]; omega, fun h9 => by have g5 := text_grow ok58 h9; rw [List.length_append, List.length_cons, List.length_nil]; omega, by omega⟩, ws_snoc hinv.1.2 ⟨ok51.2.1, ok58.2.1⟩⟩, fun h9 => (by rw [hinv.2.1 h9] at hsb; cases hsb), fun h => wsAt_stepS (goodR h.1) (hinv.2.2 h) hn1 ok51 ok51.1.2 ok58⟩)
      · omega
    · intro h47
      have hend : n = 0 ∨ s.bad = true := by (rw [Bool.and_eq_false_iff] at h47; rcases h47 with h | h; (left; simp at h; omega); (right; simpa using h))
      obtain ⟨rr, hrr⟩ : ∃ rr : TRec, rr = ⟨x22.2, x24.2, x26.2, x28.2, x35.2.1, ws, (((oneR p x28.1).2 : Int) == 1)⟩ := ⟨_, rfl⟩
      have hsz : s.bad = false → rr.size ≤ 1048576 := fun h9 => by (have g1 : x38.1.bad = false := (by cases e : x38.1.bad with | false => rfl | true => rw [hinv.2.1 e] at h9; cases h9); have g2 : x35.1.bad = false := (by cases e : x35.1.bad with | false => rfl | true => rw [num_bad ok38 e] at g1; cases g1); have g3 := rs_size (texts_lens ok35 g2); have g4 := ws_size (m := 6001) hinv.1.2 (by have g5 := hinv.1.1; omega); rw [hrr]; unfold TRec.size; dsimp only; omega)
      have hr0 : goodRec r0 = true ∧ recB r0 = b → rr = r0 := fun h => by (obtain ⟨_, ⟨e1, e2, e3, e4⟩, e5, e6, _⟩ := hF h; have e7 := (wsAt_end (hinv.2.2 h) hend).2; have g := goodR h.1; have g1 := g.kind; have g2 := g.txn; have g3 := g.time; have g4 := g.lead; rw [hrr]; cases r0; simp only [TRec.mk.injEq] at *; exact ⟨by omega, by omega, by omega, by omega, e5, e7, e6⟩)
      have hbd : goodRec r0 = true ∧ recB r0 = b → s.bad = false := fun h => (wsAt_end (hinv.2.2 h) hend).1
      subst hrr
      refine awp_exit ?_
      refine awp_seq ?_
      refine awp_seq ?_
      refine awp_region ?_
      refine sq_plain rfl rfl rfl (w_move rfl (ev_tmp rfl)) ?_
      refine sq_plain rfl rfl rfl (w_nilB rfl (ev_tmp rfl)) ?_
      refine sq_plain rfl rfl rfl (w_fldBn 2 rfl Tryz.underlying88 rfl Tryz.sizeOf4 (ev_tmp rfl) rfl) ?_
      refine sq_plain rfl rfl rfl (w_loadB1 1 rfl (ev_tmp rfl) rfl Tryz.isAgg4 rfl) ?_
      refine sq_plain rfl rfl rfl (w_move rfl (ev_tmp rfl)) ?_
      refine sq_grd rfl rfl (guard_f rfl rfl rfl) (fun hc => w_loadA 0 rfl (ev_tmp rfl) rfl Tryz.isAgg37 Tryz.sizeOf37 rfl) ?_
      refine sq_grd rfl rfl (guard_f rfl rfl rfl) (fun hc => w_callB rfl Tryz.call56 rfl (l4Good_spec _ (hsz (by simpa using hc))) (flat_bool _) (evlb_cons (evb_lt (ev_whn rfl hc) (lt_agg (lc_cons lt_refl (lc_cons lt_refl (lc_cons lt_refl (lc_cons lt_refl (lc_cons (lt_arr (List.mem_of_getElem? (i := 2) rfl) le_refl_e) (lc_cons (lt_arr (List.mem_of_getElem? (i := 3) rfl) le_refl_e) (lc_cons lt_refl lc_nil))))))))) evlb_nil)) ?_
      refine sq_grd rfl rfl (guard_f rfl rfl rfl) (fun hc => w_not rfl (ev_whn rfl hc)) ?_
      refine sq_plain rfl rfl rfl (w_or rfl (ev_tmp rfl) (evif_w rfl)) ?_
      refine sq_plain rfl rfl rfl (w_move rfl (ev_tmp rfl)) ?_
      refine sq_grd rfl rfl (guard_f rfl rfl rfl) (fun hc => w_loadA 0 rfl (ev_tmp rfl) rfl Tryz.isAgg37 Tryz.sizeOf37 rfl) ?_
      refine sq_grd rfl rfl (guard_f rfl rfl rfl) (fun hc => w_callB rfl Tryz.call57 rfl (l4Bytes_spec ⟨x22.2, x24.2, x26.2, x28.2, x35.2.1, ws, (((oneR p x28.1).2 : Int) == 1)⟩ (by simp only [Bool.not_eq_true', Bool.or_eq_false_iff, Bool.not_eq_false'] at hc; rw [goodRec_eq]; exact hc.2)) (flat_str _) (evlb_cons (evb_lt (ev_whn rfl hc) (lt_agg (lc_cons lt_refl (lc_cons lt_refl (lc_cons lt_refl (lc_cons lt_refl (lc_cons (lt_arr (List.mem_of_getElem? (i := 2) rfl) le_refl_e) (lc_cons (lt_arr (List.mem_of_getElem? (i := 3) rfl) le_refl_e) (lc_cons lt_refl lc_nil))))))))) evlb_nil)) ?_
      refine sq_grd rfl rfl (guard_f rfl rfl rfl) (fun hc => w_move rfl (ev_tmp rfl)) ?_
      refine sq_grd rfl rfl (guard_f rfl rfl rfl) (fun hc => w_sneq rfl (ev_whn rfl hc) (ev_whn rfl hc)) ?_
      refine sq_plain rfl rfl rfl (w_or rfl (ev_tmp rfl) (evif_w rfl)) ?_
      refine sq_nil ?_
      refine awp_cond (ev_tmp rfl) ?_ ?_
      · intro h80
        have he := readRec_end h0 hr0 hbd (by rw [goodRec_eq]; exact h80)
        rw [he]
        refine awp_seq ?_
        refine awp_region ?_
        refine sq_plain rfl rfl rfl (w_build (places := #[(0, 1), (1, 1), (2, 1), (3, 1), (4, 1), (5, 1), (6, 1)]) rfl Tryz.underlying37 Tryz.zeroValue37 (fun w => by kernel_rfl) rfl bp_nil rfl) ?_
        refine sq_storeB0 4 rfl rfl rfl (ev_tmp rfl) (ev_tmp rfl) (as_agg _) rfl Tryz.sizeOf37 rfl ?_
        refine sq_plain rfl rfl rfl (w_assign rfl ev_cb) ?_
        refine sq_nil ?_
        refine awp_ret ?_
        refine retG_nil 9 1 ?_
        refine retG_nil 79 3 ?_
        exact retG [1, 0] ((Value.slice none 0 0), (Value.slice none 0 0)) (trivial) rfl (by rfl) (resN rfl (by decide) (rv_cons (rv_cell (ys := _) 6 rfl rfl Tryz.isAgg37 Tryz.sizeOf37 rfl) (rv_cons (rv_tmp' rfl (by rfl)) rv_nil)))
      · intro h80
        simp only [Bool.or_eq_false_iff, Bool.not_eq_false', bne_eq_false_iff_eq] at h80
        have he := readRecR_of (by rw [goodRec_eq]; exact h80.1.2)
        rw [h80.2] at he
        rw [he]
        refine awp_skip ?_
        refine awp_seq ?_
        refine awp_region ?_
        refine sq_plain rfl rfl rfl (w_loadA 0 rfl (ev_tmp rfl) rfl Tryz.isAgg37 Tryz.sizeOf37 rfl) ?_
        refine sq_storeB0 4 rfl rfl rfl (ev_tmp rfl) (ev_tmp rfl) (as_agg _) rfl Tryz.sizeOf37 rfl ?_
        refine sq_plain rfl rfl rfl (w_assign rfl ev_cb) ?_
        refine sq_nil ?_
        refine awp_ret ?_
        exact retG [2, 2] (x35.2.2, vw) (trivial) rfl (by rfl) (resN rfl (by decide) (rv_cons (rv_cell (ys := _) 4 rfl rfl Tryz.isAgg37 Tryz.sizeOf37 rfl) (rv_cons (rv_tmp' rfl (by rfl)) rv_nil)))
end Go.Proofs.YtmlmmgeadombbaaGreatDoor

set_option linter.unusedVariables false
set_option linter.unusedSimpArgs false
namespace Go.AV
open Go.ChangeShapes Go.WideShapes Go.ChangeAt Go.RowKit

def heapR (w : World) : RHeap := fun b => w.heap[b]?
theorem heapR_le (w : World) : RLe (heapR w) w := fun _ _ h => h
theorem rcell_heap {w : World} {a : Addr} {v : Value} (h : w.cell? a = some v) : rcell (heapR w) a = some v := h

def Opens (P : Program) (t : TypeId) (α : Type) (enc : α → List AV) (ok : α → Prop) : Prop :=
  ∀ (H : Type) (en : TypeId × Value → H) (w : World) (base : Nat) (spare : Nat → Bool) (held : Bool) (fuel : Nat) (cs : List Value) (x : DataW H × List MemPlace),
    DataW.trod en P w base spare held fuel t cs = some x → ∃ a : α, ok a ∧ DenC (heapR w) cs (enc a)
theorem denC_one {R : RHeap} {v : Value} {x : AV} (h : x.den R v) (h1 : v.oneCell' = true) : DenC R [v] [x] :=
  ⟨rfl, fun i u y hu hy => by
    cases i with
    | zero => simp at hu hy; subst hu; subst hy; exact ⟨h, h1⟩
    | succ i => simp at hu⟩
section
variable {P : Program} {t e : TypeId}
theorem opens_int {k : IntKind} (ht : P.underlying t = some (.int k)) : Opens P t Int (fun n => [AV.ik k n]) (fun n => (Lit.int k n).wf = true) := fun H en w base spare held fuel cs x h => by
  obtain ⟨n, rfl, _, hw⟩ := DataW.trod_int ht h
  exact ⟨n, hw, denC_one rfl rfl⟩
theorem list_of {α : Type} {p : Nat → α → Prop} : ∀ n, (∀ i, i < n → ∃ a, p i a) → ∃ l : List α, l.length = n ∧ ∀ (i : Nat) (a : α), l[i]? = some a → p i a
  | 0, _ => ⟨[], rfl, fun i a h => by simp at h⟩
  | n + 1, h => by
    obtain ⟨l, h1, h2⟩ := list_of n fun i hi => h i (by omega)
    obtain ⟨a, ha⟩ := h n (by omega)
    refine ⟨l ++ [a], by simp [h1], fun i b hb => ?_⟩
    by_cases hi : i < l.length
    · rw [List.getElem?_append_left hi] at hb; exact h2 i b hb
    · rw [List.getElem?_append_right (by omega)] at hb
      have hin : i = n := by
        have := (List.getElem?_eq_some_iff.1 hb).1
        simp at this; omega
      subst hin
      rw [h1] at hb; simp at hb; subst hb; exact ha
theorem opens_slice {α : Type} {enc : α → List AV} {ok : α → Prop} {sz : Nat} (ht : P.underlying t = some (.slice e)) (hc : P.cellsOf e = sz) (h : Opens P e α enc ok) (hl : ∀ a, (enc a).length = sz) :
    Opens P t (List α) (fun l => [AV.list sz (l.map enc)]) (fun l => ∀ a ∈ l, ok a) := fun H en w base spare held fuel cs x hx => by
  rcases DataW.trod_slice ht hx with ⟨rfl, _⟩ | ⟨a, len, cap, elems, rest, n, _, rfl, _, _, hlc, hcm, hel, hi, _, _⟩
  · exact ⟨[], by simp, denC_one ⟨none, 0, rfl, Nat.le_refl _, Nat.zero_le _, by simp, fun h => absurd rfl h⟩ rfl⟩
  · obtain ⟨l, h1, h2⟩ := list_of (p := fun i b => ok b ∧ ∃ cs', w.cells? base (a.add (i * sz)) sz = some cs' ∧ DenC (heapR w) cs' (enc b)) len fun i hil => by
      have := hi i hil
      rw [hc, List.getElem?_eq_getElem (by omega)] at this
      obtain ⟨cs', hcs, htr⟩ := Option.bind_eq_some_iff.1 this
      obtain ⟨b, hb, hd⟩ := h H en w base spare held n cs' _ htr
      exact ⟨b, hb, cs', hcs, hd⟩
    refine ⟨l, fun b hb => ?_, denC_one ⟨some a, cap, by rw [List.length_map, h1], by rw [List.length_map, h1]; exact hlc, hcm, fun ec he => ?_, fun _ => ⟨a, rfl, fun j y hy => ?_⟩⟩ rfl⟩
    · obtain ⟨i, hib⟩ := List.getElem?_of_mem hb
      exact (h2 i b hib).1
    · obtain ⟨b, _, rfl⟩ := List.mem_map.1 he
      exact hl b
    · have hun : ∀ ec ∈ l.map enc, ec.length = sz := fun ec he => by
        obtain ⟨b, _, rfl⟩ := List.mem_map.1 he
        exact hl b
      have hjl : j < l.length * sz := by
        have := (List.getElem?_eq_some_iff.1 hy).1
        rwa [flatten_len hun, List.length_map] at this
      have hsz : 0 < sz := by
        rcases Nat.eq_zero_or_pos sz with h0 | h0
        · subst h0; omega
        · exact h0
      have hij : j / sz < l.length := Nat.div_lt_of_lt_mul (by rw [Nat.mul_comm]; exact hjl)
      have hkm : j % sz < sz := Nat.mod_lt _ hsz
      have hjj : j / sz * sz + j % sz = j := by rw [Nat.mul_comm]; exact Nat.div_add_mod j sz
      have hb : l[j / sz]? = some l[j / sz] := List.getElem?_eq_getElem hij
      obtain ⟨_, cs', hcs, hd⟩ := h2 _ _ hb
      obtain ⟨_, hcl, hat⟩ := World.cells?_some hcs
      have hk : (enc l[j / sz])[j % sz]? = some ((enc l[j / sz])[j % sz]'(by rw [hl]; exact hkm)) := List.getElem?_eq_getElem _
      have hyk := flatten_get hun (i := j / sz) (e := enc l[j / sz]) (by rw [List.getElem?_map, hb]; rfl) hk
      rw [hjj, hy] at hyk
      injection hyk with hyk
      have hv : cs'[j % sz]? = some (cs'[j % sz]'(by rw [hcl]; exact hkm)) := List.getElem?_eq_getElem _
      have hcell := hat (j % sz) hkm
      rw [hv, add_add, hjj] at hcell
      refine ⟨_, rcell_heap hcell, ?_⟩
      have := hd.2 _ _ _ hv hk
      rw [hyk]; exact this
theorem arg_one {H : Type} {en : TypeId × Value → H} {W : World} {base : Nat} {spare : Nat → Bool} {held : Bool} {α : Type} {enc : α → AV} {ok : α → Prop} {v : Value} {d : DataW H} {p : List MemPlace}
    (h : Opens P t α (fun a => [enc a]) ok) (h1 : v.cells = #[v]) (hd : DataW.Trod en P W base spare held t v d p) : ∃ a, ok a ∧ (enc a).den (heapR W) v := by
  obtain ⟨fuel, hf⟩ := hd
  rw [h1] at hf
  obtain ⟨a, h2, h3⟩ := h H en W base spare held fuel _ _ hf
  exact ⟨a, h2, (h3.2 0 v _ rfl rfl).1⟩
theorem law_calls {f : FuncId} {xs : List AV} {b : Bool} {W : World} {vs : List Value} (h : FSpec P f xs (AV.bool b)) (hd : DenV (heapR W) vs xs) :
    Calls P f vs.toArray W fun e w' => e = .returned (.bool b) ∧ Below W.heap.size W w' :=
  (h (heapR W) W vs (heapR_le W) hd).mono fun e w' ⟨v, R', h1, h2, _, _, h5⟩ => ⟨by rw [h1]; exact congrArg Ending.returned h2, h5⟩
end
end Go.AV

set_option linter.unusedVariables false
set_option linter.unusedSimpArgs false
namespace Go.AV
def AV.wt (T : World → Prop) (x : AV) : AV := ⟨fun R v => x.den R v ∧ ∀ w' : World, RLe R w' → T w', fun h ⟨a, b⟩ => ⟨x.mono h a, fun w' hw => b w' fun b o e => hw b o (h b o e)⟩⟩
section
variable {P : Program} {G : Nat → Prop} {n : Nat} {own : List Own} {o : Oper} {E : EnvF}
theorem evb_wt {p : Operand} {x : AV} {T T' : World → Prop} (i : Nat) (hi : own[i]? = some (.tab T')) (hT : ∀ w, T' w → T w) (h : EvB own E p x) : EvB own E p (AV.wt T x) := fun G w0 R0 R a w hc he =>
  ⟨h G w0 R0 R a w hc he, fun w' hw' => hT w' ((hc.owned _ (List.mem_of_getElem? hi)) w' fun b o e => hw' b o (lend_sub hc b o e))⟩
theorem core_tab {w0 w : World} {R0 R : RHeap} {T : World → Prop} (h : Core G w0 R0 own R w) (ht : ∀ w' : World, RLe R w' → T w') : Core G w0 R0 (.tab T :: own) R w where
  os := h.os
  tape := h.tape
  output := h.output
  size := h.size
  block := h.block
  rle := h.rle
  rold := h.rold
  owned o ho := by
    rcases List.mem_cons.1 ho with rfl | ho
    · exact ht
    · exact h.owned o ho
  fresh o ho b hb := by
    rcases List.mem_cons.1 ho with rfl | ho
    · cases hb
    · exact h.fresh o ho b hb
  sep := by
    rw [List.filterMap_cons]
    exact h.sep
theorem le_tab {env : List (Nat × AV)} {t : Nat} {x : AV} {T : World → Prop} (ht : getv t env = some (AV.wt T x)) : Le G n ⟨own, env⟩ ⟨.tab T :: own, (t, x) :: env⟩ := fun w0 R0 R a w ⟨h1, h2, h3⟩ => by
  have hx := h2 t _ ht
  refine ⟨R, RSub.refl _, core_tab h1 hx.2, fun k z hz => ?_, h3⟩
  simp only [getv] at hz
  by_cases hk : t = k
  · subst hk
    simp [Nat.beq_refl] at hz
    rw [← hz]
    exact hx.1
  · rw [nat_beq_ne hk, cond_false] at hz
    exact h2 k z hz
theorem fspec_wt {f : FuncId} {x y : AV} {T : World → Prop} (h : ∀ (R : RHeap) (w : World) (v : Value), RLe R w → x.den R v → T w → Calls P f #[v] w fun e w' => ∃ u, e = .returned u ∧ y.den R u ∧ Go.RowKit.Below w.heap.size w w') : FSpec P f [AV.wt T x] y := fun R w vs hr hd => by
  match vs, hd.1 with
  | [v], _ =>
    have h1 := hd.2 0 v _ rfl rfl
    refine (h R w v hr h1.1 (h1.2 w hr)).mono fun e w' ⟨u, h2, h3, h4⟩ => ⟨u, R, h2, h3, fun b o hb => ?_, fun _ _ => rfl, h4⟩
    have hb2 := hr b o hb
    rw [h4.block b (Array.getElem?_eq_some_iff.1 hb2).1]; exact hb2
theorem below_grown (w : World) (k : Nat) (os : Array Obj) : Go.RowKit.Below w.heap.size w (Go.Sort.grow (w.drewN k) os) :=
  ⟨rfl, rfl, rfl, by rw [Go.Sort.size_grow]; exact Nat.le_add_right _ _, fun b hb => Go.Sort.heap_grow_old (w.drewN k) os hb⟩
theorem tabIs_heap {P : Program} {W w' : World} {name : String} {k : IntKind} {zs : List Int} (h : Lib.TabIs P W name k zs) (hw : RLe (heapR W) w') : Lib.TabIs P w' name k zs := by
  unfold Lib.TabIs World.var? at h ⊢
  cases hg : P.globalNamed name with
  | none => rw [hg] at h; cases h
  | some g =>
    rw [hg] at h
    simp only [Option.bind_some] at h ⊢
    cases ho : W.heap[g]? with
    | none => rw [ho] at h; cases h
    | some o =>
      rw [ho] at h
      rw [hw g o ho]
      exact h
end
end Go.AV

namespace Go.Proofs
open Go.Shelf
set_option linter.unusedVariables false
def Tryz.itoa_ren : Go.Shelf.Ren := ⟨fun | 171 => 96 | 243 => 139 | 246 => 160 | 283 => 187 | 284 => 188 | 285 => 189 | 286 => 190 | 129 => 186 | 317 => 207 | 318 => 208 | 319 => 209 | 320 => 210 | 337 => 216 | 338 => 217 | n => n, fun | 3 => 3 | 9 => 9 | 2 => 2 | 4 => 4 | 171 => 153 | 0 => 0 | 53 => 59 | 37 => 22 | 5 => 5 | 173 => 155 | 212 => 172 | 51 => 151 | 20 => 20 | 213 => 173 | 46 => 124 | 232 => 187 | 233 => 188 | n => n, fun | 17 => 3 | 18 => 6 | 19 => 7 | n => n⟩
theorem Tryz.itoa : Go.Proofs.LaysM.n171 Tryz.prog Tryz.itoa_ren := {
  mixed := by kernel_rfl
  f129 := Tryz.func186.trans (congrArg some (by kernel_rfl))
  f171 := Tryz.func96.trans (congrArg some (by kernel_rfl))
  f243 := Tryz.func139.trans (congrArg some (by kernel_rfl))
  f246 := Tryz.func160.trans (congrArg some (by kernel_rfl))
  f283 := Tryz.func187.trans (congrArg some (by kernel_rfl))
  f284 := Tryz.func188.trans (congrArg some (by kernel_rfl))
  f285 := Tryz.func189.trans (congrArg some (by kernel_rfl))
  f286 := Tryz.func190.trans (congrArg some (by kernel_rfl))
  f317 := Tryz.func207.trans (congrArg some (by kernel_rfl))
  f318 := Tryz.func208.trans (congrArg some (by kernel_rfl))
  f319 := Tryz.func209.trans (congrArg some (by kernel_rfl))
  f320 := Tryz.func210.trans (congrArg some (by kernel_rfl))
  f337 := Tryz.func216.trans (congrArg some (by kernel_rfl))
  f338 := Tryz.func217.trans (congrArg some (by kernel_rfl))
  t0 := Tryz.underlying0
  a0 := Tryz.isAgg0
  z0 := Tryz.sizeOf0
  v0 := Tryz.zeroValue0
  t2 := Tryz.underlying2
  a2 := Tryz.isAgg2
  z2 := Tryz.sizeOf2
  v2 := Tryz.zeroValue2
  t3 := Tryz.underlying3
  a3 := Tryz.isAgg3
  z3 := Tryz.sizeOf3
  v3 := Tryz.zeroValue3
  t4 := Tryz.underlying4
  a4 := Tryz.isAgg4
  z4 := Tryz.sizeOf4
  v4 := Tryz.zeroValue4
  t5 := Tryz.underlying5
  a5 := Tryz.isAgg5
  z5 := Tryz.sizeOf5
  v5 := Tryz.zeroValue5
  t9 := Tryz.underlying9
  a9 := Tryz.isAgg9
  z9 := Tryz.sizeOf9
  v9 := Tryz.zeroValue9
  t20 := Tryz.underlying20
  a20 := Tryz.isAgg20
  z20 := Tryz.sizeOf20
  v20 := Tryz.zeroValue20
  t37 := Tryz.underlying22
  a37 := Tryz.isAgg22
  z37 := Tryz.sizeOf22
  v37 := Tryz.zeroValue22
  t46 := Tryz.underlying124
  a46 := Tryz.isAgg124
  z46 := Tryz.sizeOf124
  v46 := Tryz.zeroValue124
  t51 := Tryz.underlying151
  a51 := Tryz.isAgg151
  z51 := Tryz.sizeOf151
  v51 := Tryz.zeroValue151
  t53 := Tryz.underlying59
  a53 := Tryz.isAgg59
  z53 := Tryz.sizeOf59
  v53 := Tryz.zeroValue59
  t171 := Tryz.underlying153
  a171 := Tryz.isAgg153
  z171 := Tryz.sizeOf153
  v171 := Tryz.zeroValue153
  t173 := Tryz.underlying155
  a173 := Tryz.isAgg155
  z173 := Tryz.sizeOf155
  v173 := Tryz.zeroValue155
  t212 := Tryz.underlying172
  a212 := Tryz.isAgg172
  z212 := Tryz.sizeOf172
  v212 := Tryz.zeroValue172
  t213 := Tryz.underlying173
  a213 := Tryz.isAgg173
  z213 := Tryz.sizeOf173
  t232 := Tryz.underlying187
  a232 := Tryz.isAgg187
  z232 := Tryz.sizeOf187
  v232 := Tryz.zeroValue187
  t233 := Tryz.underlying188
  a233 := Tryz.isAgg188
  z233 := Tryz.sizeOf188
  v233 := Tryz.zeroValue188
  g17 := by kernel_rfl
  g18 := by kernel_rfl
  g19 := by kernel_rfl
  i0 := by kernel_rfl
  i2 := by kernel_rfl
  i3 := by kernel_rfl
  i4 := by kernel_rfl
  i5 := by kernel_rfl
  i9 := by kernel_rfl
  i20 := by kernel_rfl
  i37 := by kernel_rfl
  i46 := by kernel_rfl
  i51 := by kernel_rfl
  i53 := by kernel_rfl
  i171 := by kernel_rfl
  i173 := by kernel_rfl
  i212 := by kernel_rfl
  i232 := by kernel_rfl
  i233 := by kernel_rfl
  m17 := by kernel_rfl
  m18 := by kernel_rfl
  m19 := by kernel_rfl }
end Go.Proofs

set_option linter.unusedVariables false
set_option linter.unusedSimpArgs false
set_option maxRecDepth 100000
namespace Go.Proofs.YtmlmmgeadombbaaGreatDoor
open Go Go.AV Go.M
attribute [local irreducible] OpW OpA OpS AWP FSpec ESpec GSpec OpE RetOk RetOkG RvDen Le Ev GuardIs SrcIs Int.tmod Int.tdiv IntKind.wrap
def tabW (w : World) : Prop := Lib.TabIs Tryz.prog w "internal/strconv.uint64pow10" .u64 Lib.pow10Tab
theorem tabW_heap {W w' : World} (h : tabW W) (hw : RLe (heapR W) w') : tabW w' := tabIs_heap h hw
theorem tabW_head {W : World} {rest : List (String × DataW Unit)} (h : laidMet Tryz.prog (("internal/strconv.uint64pow10", Lib.tabData .u64 Lib.pow10Tab) :: rest) W) : tabW W :=
  Lib.tabIs_of_head (g := 3) (t := 172) (by kernel_rfl) (by kernel_rfl) Tryz.underlying172 Tryz.underlying59 (by kernel_rfl) (by kernel_rfl) h
theorem itoa_spec (n : Int) (h : -9223372036854775808 ≤ n ∧ n ≤ 9223372036854775807) : FSpec Tryz.prog 96 [AV.wt tabW (AV.int n)] (AV.str (itoaD n)) :=
  fspec_wt fun R w v hr hv hT => by
    rw [show v = Value.int .i64 n from hv]
    refine (Any.strconv_Itoa Tryz.itoa n h.1 h.2 w hT).mono ?_
    rintro e w' ⟨rfl, k, os, rfl⟩
    exact ⟨_, rfl, rfl, below_grown w k os⟩
theorem l1Num_spec (n : Nat) : n ≤ 1000000000000 → FSpec Tryz.prog 117 [AV.int n] (AV.str (decD n)) := by
  induction n using Nat.strongRecOn with
  | ind n ih =>
    intro hn
    refine spec_of_awp Tryz.func117 rfl Tryz.ntmps117 rfl ?_
    refine awp_seq ?_
    refine awp_region ?_
    refine sq_plain rfl rfl rfl (w_assign rfl (ev_cs' (l := []) rfl)) ?_
    refine sq_nil ?_
    refine awp_seq ?_
    refine awp_seq ?_
    refine awp_region ?_
    refine sq_plain rfl rfl rfl (w_move rfl (ev_tmp rfl)) ?_
    refine sq_plain rfl rfl rfl (w_lss rfl (ev_tmp rfl) ev_ci) ?_
    refine sq_nil ?_
    refine awp_cond (ev_tmp rfl) ?_ ?_
    · intro h4
      have k4 := of_decide_eq_true h4; try simp only [List.length_map] at k4
      have hn10 : n < 10 := by omega
      refine awp_seq ?_
      refine awp_region ?_
      refine sq_plain rfl rfl rfl (w_move rfl (ev_tmp rfl)) ?_
      refine sq_plain rfl rfl rfl (w_addi rfl ev_ci (ev_tmp rfl) (by first | omega | ((try simp only [List.length_map, List.length_take, List.length_cons, List.length_nil, chunks_len, szR] at *); omega) | (have hc2 := hc; simp only [Bool.and_eq_true, Bool.or_eq_true, Bool.or_eq_false_iff, Bool.and_eq_false_iff, Bool.not_eq_true', Bool.not_eq_false', decide_eq_true_eq, decide_eq_false_iff_not, beq_iff_eq, bne_iff_ne, List.length_map, List.length_take] at hc2; omega))) ?_
      refine sq_plain rfl rfl rfl (w_conv rfl (by kernel_rfl) Tryz.underlying5 (ev_tmp rfl)) ?_
      rw [dig1]
      refine sq_plain rfl rfl rfl (w_bslice rfl Tryz.underlying22 Tryz.sizeOf5 Tryz.zeroValue5 rfl rfl rfl rfl (bp_cons (ev_tmp rfl) (as_ik _ _) bp_nil) rfl rfl) ?_
      refine sq_plain rfl rfl rfl (w_convB (bs := [UInt8.ofNat (48 + n)]) rfl Tryz.underlying22 Tryz.underlying5 Tryz.underlying9 (ev_tmp rfl)) ?_
      refine sq_plain rfl rfl rfl (w_assign rfl (ev_tmp rfl)) ?_
      refine sq_nil ?_
      refine awp_ret ?_
      exact retR rfl (rv_tmp' rfl (by first | exact congrArg AV.str (decD_small hn10).symm | exact congrArg AV.str (decD_big hn10).symm))
    · intro h4
      have k4 := of_decide_eq_false h4; try simp only [List.length_map] at k4
      have hn10 : ¬ n < 10 := by omega
      have hdl := decD_len (k := 12) (n := n / 10) (by omega) (by decide)
      refine awp_skip ?_
      refine awp_seq ?_
      refine awp_region_any (by kernel_rfl) (by kernel_rfl) rfl ?_
      refine ch_plain rfl rfl (w_move rfl (ev_tmp rfl)) ?_
      refine ch_plain rfl rfl (w_quo rfl (ev_tmp rfl) ev_ci (by decide)) ?_
      rw [quo10 hn]
      refine ch_plain rfl rfl (w_call rfl Tryz.call117 rfl (ih (n / 10) (by omega) (by omega)) (evl_cons (ev_tmp rfl) evl_nil)) ?_
      refine ch_plain rfl rfl (w_move rfl (ev_tmp rfl)) ?_
      refine ch_plain rfl rfl (w_rem rfl (ev_tmp rfl) ev_ci (by decide)) ?_
      refine ch_plain rfl rfl (w_addi rfl ev_ci (ev_tmp rfl) (by rw [tmod10]; omega)) ?_
      refine ch_plain rfl rfl (w_conv rfl (by kernel_rfl) Tryz.underlying5 (ev_tmp rfl)) ?_
      rw [dig2]
      refine ch_plain rfl rfl (w_bslice rfl Tryz.underlying22 Tryz.sizeOf5 Tryz.zeroValue5 rfl rfl rfl rfl (bp_cons (ev_tmp rfl) (as_ik _ _) bp_nil) rfl rfl) ?_
      refine ch_plain rfl rfl (w_convB (bs := [UInt8.ofNat (48 + n % 10)]) rfl Tryz.underlying22 Tryz.underlying5 Tryz.underlying9 (ev_tmp rfl)) ?_
      refine ch_plain rfl rfl (w_cat rfl (ev_tmp rfl) (ev_tmp rfl) (by first | omega | (simp only [List.length_append, List.length_take, List.length_drop, List.length_cons, List.length_nil]; omega))) ?_
      refine ch_plain rfl rfl (w_assign rfl (ev_tmp rfl)) ?_
      refine ch_nil ?_
      refine awp_ret ?_
      exact retR rfl (rv_tmp' rfl (by first | exact congrArg AV.str (decD_small hn10).symm | exact congrArg AV.str (decD_big hn10).symm))
end Go.Proofs.YtmlmmgeadombbaaGreatDoor

set_option linter.unusedVariables false
set_option linter.unusedSimpArgs false
set_option maxRecDepth 100000
namespace Go.Proofs.YtmlmmgeadombbaaGreatDoor
open Go Go.AV Go.M
attribute [local irreducible] OpW OpA OpS AWP FSpec ESpec GSpec OpE RetOk RetOkG RvDen Le Ev GuardIs SrcIs
end Go.Proofs.YtmlmmgeadombbaaGreatDoor

namespace Go.Proofs
open Go.Shelf
set_option linter.unusedVariables false
end Go.Proofs

set_option linter.unusedVariables false
set_option linter.unusedSimpArgs false
set_option maxRecDepth 100000
namespace Go.AV
end Go.AV
namespace Go.Proofs.YtmlmmgeadombbaaGreatDoor
open Go Go.AV Go.M
attribute [local irreducible] OpW OpA OpS AWP FSpec ESpec GSpec OpE RetOk RetOkG RvDen Le Ev GuardIs SrcIs Int.tmod Int.tdiv IntKind.wrap
end Go.Proofs.YtmlmmgeadombbaaGreatDoor

set_option linter.unusedVariables false
set_option linter.unusedSimpArgs false
namespace Go.AV
open Go.RowKit (Below)
def AV.errB (b : Bool) : AV := ⟨fun _ v => (b = false → v = .nilIface) ∧ (b = true → ∃ t p, v = .iface t p), fun _ h => h⟩
section
variable {P : Program} {G : Nat → Prop} {n : Nat} {own : List Own} {o : Oper} {E : EnvF}
theorem w_errneq {b : Bool} {t : TypeId} {p : Operand} {ty : TypeId} (ho : o.op = .binOp .neq t p (.const .nilIface) ty) (ht : P.underlying t = some (.interface (P.methodsAt t))) (hp : Ev E p (AV.errB b)) : OpW P G n own o E (AV.bool b) := opW_val fun R a w _ he => by
  have h1 : (b = false → a.eval p = .nilIface) ∧ (b = true → ∃ t p', a.eval p = .iface t p') := ev_use hp (by simp [ho, Op.operands]) he
  have h3 : a.eval (.const .nilIface) = .nilIface := rfl
  cases b with
  | false =>
    have h2 := h1.1 rfl
    exact ⟨.bool false, by simp only [execOp, ho, h2, h3, eqGuard_nil_constR, Sem.run_bind, Sem.run_pure, Result.andThen_ok, run_neq_nil_nil w t ht], rfl⟩
  | true =>
    obtain ⟨u, x, h2⟩ := h1.2 rfl
    exact ⟨.bool true, by simp only [execOp, ho, h2, h3, eqGuard_at_iface, Sem.run_bind, Sem.run_pure, Result.andThen_ok, run_neq_held_nil w t u x ht], rfl⟩
theorem w_callT {f : FuncId} {args : Array Operand} {tys : Array TypeId} {ps : List Operand} {x : AV} {xs : List AV} {y : AV} {T T' : World → Prop} (i : Nat) (hi : own[i]? = some (.tab T')) (ho : o.op = .call { callee := .value (.func f), args := args, argTypes := tys }) (hc : ∀ (vs : Array Value) (w : World), (callFunc f vs).run P w = .ok (.enter f vs) w)
    (hps : args.toList = ps) (hs : FSpec P f (AV.wt T x :: xs) y) (he : EvL E ps (x :: xs)) (hT : ∀ w, T' w → T w) : OpW P G n own o E y := fun w0 R0 R a w hcore _ hen => by
  have hd := evl_use hen he fun p hp => by simp [ho, Op.operands, Call.operands]; right; rw [← hps] at hp; exact Array.mem_toList_iff.1 hp
  have htab : ∀ w' : World, RLe R w' → T w' := fun w' hw' => hT w' ((hcore.owned _ (List.mem_of_getElem? hi)) w' hw')
  have hd2 : DenV R (ps.map a.eval) (AV.wt T x :: xs) := ⟨hd.1, fun j v z hv hz => by
    cases j with
    | zero =>
      simp at hz; subst hz
      exact ⟨hd.2 0 v x hv rfl, htab⟩
    | succ j => exact hd.2 (j + 1) v z hv hz⟩
  have hrun : (execOp a.eval o).run P w = .ok (.enter f (ps.map a.eval).toArray) w := by
    have hargs : args.map a.eval = (ps.map a.eval).toArray := by rw [← hps]; cases args; simp
    simp only [execOp, ho, resolve, hargs, show a.eval (.func f) = .func (.func f) #[] #[] from rfl]
    simp [Deferred.ofValue, invoke, hc]
  unfold Oper.wp
  rw [hrun, Oper.upon_enter]
  refine (hs R w _ hcore.rle hd2).mono fun e w' ⟨v, R', e1, e2, e3, e4, e5⟩ => ?_
  subst e1
  exact ⟨v, R', rfl, hcore.step e5 e3 e4, rsub_of hcore.rle e4, e2⟩
theorem fspec_wtL {f : FuncId} {x y : AV} {xs : List AV} {T : World → Prop} (h : ∀ (R : RHeap) (w : World) (v : Value) (vs : List Value), RLe R w → x.den R v → DenV R (v :: vs) (x :: xs) → T w → Calls P f (v :: vs).toArray w fun e w' => ∃ u, e = .returned u ∧ y.den R u ∧ Below w.heap.size w w') : FSpec P f (AV.wt T x :: xs) y := fun R w vs hr hd => by
  match vs, hd.1 with
  | v :: vs, _ =>
    have h1 := hd.2 0 v _ rfl rfl
    have hd2 : DenV R (v :: vs) (x :: xs) := ⟨hd.1, fun j u z hu hz => by
      cases j with
      | zero => simp at hz hu; subst hz; subst hu; exact h1.1
      | succ j => exact hd.2 (j + 1) u z hu hz⟩
    refine (h R w v vs hr h1.1 hd2 (h1.2 w hr)).mono fun e w' ⟨u, h2, h3, h4⟩ => ⟨u, R, h2, h3, fun b o hb => ?_, fun _ _ => rfl, h4⟩
    have hb2 := hr b o hb
    rw [h4.block b (Array.getElem?_eq_some_iff.1 hb2).1]; exact hb2
theorem fspec_lib2 {f : FuncId} {x y z : AV} (h : ∀ (R : RHeap) (w : World) (u v : Value), x.den R u → z.den R v → Calls P f #[u, v] w fun e w' => ∃ u, e = .returned u ∧ y.den R u ∧ Below w.heap.size w w') : FSpec P f [x, z] y := fun R w vs hr hd => by
  match vs, hd.1 with
  | [u, v], _ =>
    refine (h R w u v (hd.2 0 u x rfl rfl) (hd.2 1 v z rfl rfl)).mono fun e w' ⟨u, h2, h3, h4⟩ => ⟨u, R, h2, h3, fun b o hb => ?_, fun _ _ => rfl, h4⟩
    have hb2 := hr b o hb
    rw [h4.block b (Array.getElem?_eq_some_iff.1 hb2).1]; exact hb2
theorem below_same (w : World) : Below w.heap.size w w := ⟨rfl, rfl, rfl, Nat.le_refl _, fun _ _ => rfl⟩
theorem below_drew (w : World) (k : Nat) : Below w.heap.size w (w.drewN k) := ⟨rfl, rfl, rfl, Nat.le_refl _, fun _ _ => rfl⟩
theorem below_bytes (w : World) (e : TypeId) (t : ByteArray) : Below w.heap.size w (Lib.bytesWorld w e t) :=
  ⟨rfl, rfl, rfl, by rw [Lib.bytesWorld_size]; exact Nat.le_succ _, fun b hb => Lib.bytesWorld_at_old w e t b hb⟩
theorem denC_strs {R : RHeap} (ps : List ByteArray) : DenC R (ps.map Value.string) (((ps.map (·.data.toList)).map fun s : List UInt8 => [AV.str s]).flatten) := by
  have e : ((ps.map (·.data.toList)).map fun s : List UInt8 => [AV.str s]).flatten = (ps.map Value.string).map AV.is := by
    induction ps with
    | nil => rfl
    | cons b ps ih =>
      simp only [List.map_cons, List.flatten_cons, ih, List.cons_append, List.nil_append]
      rfl
  rw [e]
  refine ⟨by simp, fun i v x hv hx => ?_⟩
  rw [List.getElem?_map, hv] at hx
  injection hx with hx; subst hx
  obtain ⟨b, _, rfl⟩ := List.mem_map.1 (List.mem_of_getElem? hv)
  exact ⟨rfl, rfl⟩
theorem pieces_own {f : FuncId} {T : World → Prop} {s : List UInt8} {c : UInt8} {t : TypeId} {L : List (List UInt8)} {ps : List ByteArray} (hL : ps.map (·.data.toList) = L) (hlen : ps.length ≤ maxLen)
    (h : ∀ w : World, T w → Calls P f #[.string ⟨s.toArray⟩, .string ⟨#[c]⟩] w fun e w' => e = .returned (.slice (some ⟨w.heap.size, 0, none⟩) ps.length ps.length) ∧ w' = w.alloc (.cells (ps.map Value.string).toArray t)) :
    GSpec P f [AV.wt T (AV.str s), AV.str [c]] [] (fun _ : Value => True) (fun v => [.arr v t 1 (L.map fun x => [AV.str x])]) (fun v => AV.is v) := fun R w vs hr hd _ _ => by
  match vs, hd.1 with
  | [u, v], _ =>
    have h1 := hd.2 0 u _ rfl rfl
    have h2 := hd.2 1 v _ rfl rfl
    rw [show u = Value.string ⟨s.toArray⟩ from h1.1, show v = Value.string ⟨#[c]⟩ from h2]
    refine (h w (h1.2 w hr)).mono fun e w' ⟨e1, e2⟩ => ?_
    subst e1; subst e2; subst hL
    refine ⟨_, _, R, trivial, rfl, rfl, ?_⟩
    exact core_arr_new (core_start hr) (by simp) (Nat.le_refl _) hlen (by simp) (fun x hx => by
      obtain ⟨b, _, rfl⟩ := List.mem_map.1 hx; rfl) (by
      have h9 := denC_strs (R := R) ps
      have e9 : ((ps.map Value.string).toArray.toList.take (ps.length * 1)) = ps.map Value.string := by rw [Nat.mul_one]; exact List.take_of_length_le (by simp)
      rw [e9]; exact h9)
theorem handed_shaped {H : Type} {enc : TypeId × Value → H} {a : Assume} {C : Checked} {os : Os} {f : FuncId} {fn : Func} {s : ChangeSpec} {conds : List PathCond} {apart fresh handsOn again : Bool} {X : World → Array Value → Prop}
    (hX : ∀ (w w' : World) (args : Array Value), w.heap = w'.heap → X w args → X w' args)
    (own : ownKnob C.prog.godebug = none) (started : os.Started) (noInit : C.prog.inits.idxOf? f = none) (hfn : C.prog.funcs[f]? = some fn)
    (witness : ∃ (w : World) (tape : Tape) (i : Input), w.os = os ∧ (w.forCall tape i).Shaped C.prog ∧ i.vars = [] ∧ Input.okWide C.prog (w.forCall tape i) .any w.heap.size f i ∧
      ((s.pre enc C.prog fn conds apart (w.forCall tape i).memory i.args ∧ X (w.forCall tape i).memory i.args) ∧ sizedMet enc C.prog fn (OpenSpec.ofChange s) apart (w.forCall tape i).memory i.args) ∧ a.holds C.prog (lone (Frame.enter C.prog f i.args .normal) [] (w.forCall tape i)))
    (contract : ∀ (W : World) (base : Nat) (args : Array Value) (ds gs : List (DataW H)) (before : List MemPlace),
      (∀ (j : Nat) t v, fn.params[j]? = some t → args[j]? = some v → Value.okWide C.prog W .any base t v) →
      DataW.Whole enc C.prog fn.params.toList s.vars apart W args.toList ds gs before →
      W.ShapedOpen C.prog →
      (DataW.weightsEach C.prog (fn.params.toList ++ s.plain.varTypes C.prog) (ds ++ gs)).all (· ≤ reachBytes) = true → X W args →
      a.holds C.prog (lone (Frame.enter C.prog f args .normal) [] W) →
      Calls C.prog f args W fun e W' => ∃ v, e = .returned v ∧ s.post enc C.prog fn apart fresh handsOn again W args v W') :
    ReturnsInHanded a C os f .any (fun w args => (s.pre enc C.prog fn conds apart w args ∧ X w args) ∧ sizedMet enc C.prog fn (OpenSpec.ofChange s) apart w args) (s.post enc C.prog fn apart fresh handsOn again) := by
  refine returnsInHanded_of_calls own started noInit witness ?_
  intro w tape i _ hsh _ hok hpre hholds
  obtain ⟨_, _, _, fn', hfn', _, _, _, _, hval⟩ := hok
  have e : fn' = fn := Option.some.inj (hfn'.symm.trans hfn)
  subst e
  obtain ⟨⟨⟨ds, gs, before, hw, hc⟩, hx⟩, hz⟩ := hpre
  have hw' := DataW.Whole.of_heap (w' := w.forCall tape i) (by rfl) hw
  refine (contract (w.forCall tape i) w.heap.size i.args ds gs before hval hw' hsh (hz.weights hw) (hX _ _ _ (by rfl) hx) hholds).mono fun e W' ⟨v, he, hp⟩ => ?_
  subst he
  exact ChangeSpec.post_blind hp
theorem cell_heap {W w' : World} {g : Nat} {v : Value} (h : W.cell? ⟨g, 0, none⟩ = some v) (hw : RLe (heapR W) w') : w'.cell? ⟨g, 0, none⟩ = some v := by
  unfold World.cell? at h ⊢
  dsimp only at h ⊢
  cases ho : W.heap[g]? with
  | none => rw [ho] at h; simp at h
  | some o => rw [ho] at h; rw [hw g o ho]; exact h
theorem var_heap {P : Program} {W w' : World} {name : String} {vs : Array Value} (h : W.var? P name = some vs) (hw : RLe (heapR W) w') : w'.var? P name = some vs := by
  unfold World.var? at h ⊢
  cases hg : P.globalNamed name with
  | none => rw [hg] at h; cases h
  | some g =>
    rw [hg] at h
    simp only [Option.bind_some] at h ⊢
    cases ho : W.heap[g]? with
    | none => rw [ho] at h; cases h
    | some o =>
      rw [ho] at h
      rw [hw g o ho]
      exact h
end
end Go.AV

namespace Go.Proofs
open Go.Shelf
set_option linter.unusedVariables false
def Tryz.split_ren : Go.Shelf.Ren := ⟨fun | 146 => 41 | 221 => 101 | 268 => 145 | 138 => 146 | 143 => 147 | 195 => 164 | 197 => 165 | 218 => 166 | 219 => 167 | 260 => 193 | 217 => 194 | 225 => 195 | 224 => 196 | 267 => 197 | 266 => 211 | 314 => 212 | n => n, fun | 9 => 9 | 31 => 34 | 3 => 3 | 4 => 4 | 0 => 0 | 105 => 133 | 21 => 21 | 5 => 5 | 46 => 124 | 119 => 174 | 139 => 177 | 138 => 176 | 146 => 178 | 51 => 151 | n => n, fun | 1 => 0 | 3 => 4 | 4 => 5 | n => n⟩
theorem Tryz.split : Go.Proofs.Lays.n146 Tryz.prog Tryz.split_ren := {
  mixed := by kernel_rfl
  f138 := Tryz.func146.trans (congrArg some (by kernel_rfl))
  f143 := Tryz.func147.trans (congrArg some (by kernel_rfl))
  f146 := Tryz.func41.trans (congrArg some (by kernel_rfl))
  f195 := Tryz.func164.trans (congrArg some (by kernel_rfl))
  f197 := Tryz.func165.trans (congrArg some (by kernel_rfl))
  f217 := Tryz.func194.trans (congrArg some (by kernel_rfl))
  f218 := Tryz.func166.trans (congrArg some (by kernel_rfl))
  f219 := Tryz.func167.trans (congrArg some (by kernel_rfl))
  f221 := Tryz.func101.trans (congrArg some (by kernel_rfl))
  f224 := Tryz.func196.trans (congrArg some (by kernel_rfl))
  f225 := Tryz.func195.trans (congrArg some (by kernel_rfl))
  f260 := Tryz.func193.trans (congrArg some (by kernel_rfl))
  f266 := Tryz.func211.trans (congrArg some (by kernel_rfl))
  f267 := Tryz.func197.trans (congrArg some (by kernel_rfl))
  f268 := Tryz.func145.trans (congrArg some (by kernel_rfl))
  f314 := Tryz.func212.trans (congrArg some (by kernel_rfl))
  t0 := Tryz.underlying0
  a0 := Tryz.isAgg0
  z0 := Tryz.sizeOf0
  v0 := Tryz.zeroValue0
  t3 := Tryz.underlying3
  a3 := Tryz.isAgg3
  z3 := Tryz.sizeOf3
  v3 := Tryz.zeroValue3
  t4 := Tryz.underlying4
  a4 := Tryz.isAgg4
  z4 := Tryz.sizeOf4
  v4 := Tryz.zeroValue4
  t5 := Tryz.underlying5
  a5 := Tryz.isAgg5
  z5 := Tryz.sizeOf5
  v5 := Tryz.zeroValue5
  t9 := Tryz.underlying9
  a9 := Tryz.isAgg9
  z9 := Tryz.sizeOf9
  v9 := Tryz.zeroValue9
  t21 := Tryz.underlying21
  a21 := Tryz.isAgg21
  z21 := Tryz.sizeOf21
  v21 := Tryz.zeroValue21
  t31 := Tryz.underlying34
  a31 := Tryz.isAgg34
  z31 := Tryz.sizeOf34
  v31 := Tryz.zeroValue34
  t46 := Tryz.underlying124
  a46 := Tryz.isAgg124
  z46 := Tryz.sizeOf124
  v46 := Tryz.zeroValue124
  t51 := Tryz.underlying151
  a51 := Tryz.isAgg151
  z51 := Tryz.sizeOf151
  v51 := Tryz.zeroValue151
  t105 := Tryz.underlying133
  a105 := Tryz.isAgg133
  z105 := Tryz.sizeOf133
  v105 := Tryz.zeroValue133
  t119 := Tryz.underlying174
  a119 := Tryz.isAgg174
  z119 := Tryz.sizeOf174
  t138 := Tryz.underlying176
  a138 := Tryz.isAgg176
  z138 := Tryz.sizeOf176
  v138 := Tryz.zeroValue176
  t139 := Tryz.underlying177
  a139 := Tryz.isAgg177
  z139 := Tryz.sizeOf177
  v139 := Tryz.zeroValue177
  t146 := Tryz.underlying178
  a146 := Tryz.isAgg178
  z146 := Tryz.sizeOf178
  v146 := Tryz.zeroValue178
  g1 := by kernel_rfl
  g3 := by kernel_rfl
  g4 := by kernel_rfl }
def Tryz.cut_ren : Go.Shelf.Ren := ⟨fun | 145 => 124 | 220 => 155 | 219 => 167 | 217 => 194 | 225 => 195 | 224 => 196 | 267 => 197 | 266 => 211 | 314 => 212 | n => n, fun | 9 => 9 | 4 => 4 | 59 => 108 | 3 => 3 | 5 => 5 | 46 => 124 | 146 => 178 | 51 => 151 | n => n, fun | 1 => 0 | n => n⟩
theorem Tryz.cut : Go.Proofs.Lays.n145 Tryz.prog Tryz.cut_ren := {
  mixed := by kernel_rfl
  f145 := Tryz.func124.trans (congrArg some (by kernel_rfl))
  f217 := Tryz.func194.trans (congrArg some (by kernel_rfl))
  f219 := Tryz.func167.trans (congrArg some (by kernel_rfl))
  f220 := Tryz.func155.trans (congrArg some (by kernel_rfl))
  f224 := Tryz.func196.trans (congrArg some (by kernel_rfl))
  f225 := Tryz.func195.trans (congrArg some (by kernel_rfl))
  f266 := Tryz.func211.trans (congrArg some (by kernel_rfl))
  f267 := Tryz.func197.trans (congrArg some (by kernel_rfl))
  f314 := Tryz.func212.trans (congrArg some (by kernel_rfl))
  t3 := Tryz.underlying3
  a3 := Tryz.isAgg3
  z3 := Tryz.sizeOf3
  v3 := Tryz.zeroValue3
  t4 := Tryz.underlying4
  a4 := Tryz.isAgg4
  z4 := Tryz.sizeOf4
  v4 := Tryz.zeroValue4
  t5 := Tryz.underlying5
  a5 := Tryz.isAgg5
  z5 := Tryz.sizeOf5
  v5 := Tryz.zeroValue5
  t9 := Tryz.underlying9
  a9 := Tryz.isAgg9
  z9 := Tryz.sizeOf9
  v9 := Tryz.zeroValue9
  t46 := Tryz.underlying124
  a46 := Tryz.isAgg124
  z46 := Tryz.sizeOf124
  v46 := Tryz.zeroValue124
  t51 := Tryz.underlying151
  a51 := Tryz.isAgg151
  z51 := Tryz.sizeOf151
  v51 := Tryz.zeroValue151
  t59 := Tryz.underlying108
  a59 := Tryz.isAgg108
  z59 := Tryz.sizeOf108
  v59 := Tryz.zeroValue108
  t146 := Tryz.underlying178
  a146 := Tryz.isAgg178
  z146 := Tryz.sizeOf178
  v146 := Tryz.zeroValue178
  g1 := by kernel_rfl }
def Tryz.trimSuffix_ren : Go.Shelf.Ren := ⟨fun | 102 => 125 | 209 => 156 | 207 => 175 | n => n, fun | 9 => 9 | 4 => 4 | 3 => 3 | n => n, fun | n => n⟩
theorem Tryz.trimSuffix : Go.Proofs.Lays.n102 Tryz.prog Tryz.trimSuffix_ren := {
  mixed := by kernel_rfl
  f102 := Tryz.func125.trans (congrArg some (by kernel_rfl))
  f207 := Tryz.func175.trans (congrArg some (by kernel_rfl))
  f209 := Tryz.func156.trans (congrArg some (by kernel_rfl))
  t3 := Tryz.underlying3
  a3 := Tryz.isAgg3
  z3 := Tryz.sizeOf3
  v3 := Tryz.zeroValue3
  t4 := Tryz.underlying4
  a4 := Tryz.isAgg4
  z4 := Tryz.sizeOf4
  v4 := Tryz.zeroValue4
  t9 := Tryz.underlying9
  a9 := Tryz.isAgg9
  z9 := Tryz.sizeOf9
  v9 := Tryz.zeroValue9 }
def Tryz.atoi_ren : Go.Shelf.Ren := ⟨fun | 172 => 102 | 244 => 148 | 245 => 149 | 247 => 168 | 279 => 169 | 280 => 170 | 281 => 171 | 282 => 172 | 287 => 198 | 316 => 199 | 171 => 96 | 205 => 200 | 321 => 213 | 322 => 214 | 243 => 139 | 246 => 160 | 283 => 187 | 284 => 188 | 285 => 189 | 286 => 190 | 129 => 186 | 317 => 207 | 318 => 208 | 319 => 209 | 320 => 210 | 337 => 216 | 338 => 217 | n => n, fun | 9 => 9 | 3 => 3 | 75 => 98 | 76 => 99 | 4 => 4 | 5 => 5 | 167 => 136 | 37 => 22 | 0 => 0 | 85 => 137 | 2 => 2 | 168 => 139 | 53 => 59 | 175 => 160 | 46 => 124 | 210 => 163 | 127 => 132 | 145 => 183 | 143 => 181 | 21 => 21 | 171 => 153 | 173 => 155 | 212 => 172 | 51 => 151 | 20 => 20 | 213 => 173 | 232 => 187 | 233 => 188 | 80 => 77 | n => n, fun | 15 => 1 | 16 => 2 | 17 => 3 | 18 => 6 | 19 => 7 | n => n⟩
theorem Tryz.atoi : Go.Proofs.LaysC.n172 Tryz.prog Tryz.atoi_ren := {
  mixed := by kernel_rfl
  f129 := Tryz.func186.trans (congrArg some (by kernel_rfl))
  f171 := Tryz.func96.trans (congrArg some (by kernel_rfl))
  f172 := Tryz.func102.trans (congrArg some (by kernel_rfl))
  f205 := Tryz.func200.trans (congrArg some (by kernel_rfl))
  f243 := Tryz.func139.trans (congrArg some (by kernel_rfl))
  f244 := Tryz.func148.trans (congrArg some (by kernel_rfl))
  f245 := Tryz.func149.trans (congrArg some (by kernel_rfl))
  f246 := Tryz.func160.trans (congrArg some (by kernel_rfl))
  f247 := Tryz.func168.trans (congrArg some (by kernel_rfl))
  f279 := Tryz.func169.trans (congrArg some (by kernel_rfl))
  f280 := Tryz.func170.trans (congrArg some (by kernel_rfl))
  f281 := Tryz.func171.trans (congrArg some (by kernel_rfl))
  f282 := Tryz.func172.trans (congrArg some (by kernel_rfl))
  f283 := Tryz.func187.trans (congrArg some (by kernel_rfl))
  f284 := Tryz.func188.trans (congrArg some (by kernel_rfl))
  f285 := Tryz.func189.trans (congrArg some (by kernel_rfl))
  f286 := Tryz.func190.trans (congrArg some (by kernel_rfl))
  f287 := Tryz.func198.trans (congrArg some (by kernel_rfl))
  f316 := Tryz.func199.trans (congrArg some (by kernel_rfl))
  f317 := Tryz.func207.trans (congrArg some (by kernel_rfl))
  f318 := Tryz.func208.trans (congrArg some (by kernel_rfl))
  f319 := Tryz.func209.trans (congrArg some (by kernel_rfl))
  f320 := Tryz.func210.trans (congrArg some (by kernel_rfl))
  f321 := Tryz.func213.trans (congrArg some (by kernel_rfl))
  f322 := Tryz.func214.trans (congrArg some (by kernel_rfl))
  f337 := Tryz.func216.trans (congrArg some (by kernel_rfl))
  f338 := Tryz.func217.trans (congrArg some (by kernel_rfl))
  t0 := Tryz.underlying0
  a0 := Tryz.isAgg0
  z0 := Tryz.sizeOf0
  v0 := Tryz.zeroValue0
  t2 := Tryz.underlying2
  a2 := Tryz.isAgg2
  z2 := Tryz.sizeOf2
  v2 := Tryz.zeroValue2
  t3 := Tryz.underlying3
  a3 := Tryz.isAgg3
  z3 := Tryz.sizeOf3
  v3 := Tryz.zeroValue3
  t4 := Tryz.underlying4
  a4 := Tryz.isAgg4
  z4 := Tryz.sizeOf4
  v4 := Tryz.zeroValue4
  t5 := Tryz.underlying5
  a5 := Tryz.isAgg5
  z5 := Tryz.sizeOf5
  v5 := Tryz.zeroValue5
  t9 := Tryz.underlying9
  a9 := Tryz.isAgg9
  z9 := Tryz.sizeOf9
  v9 := Tryz.zeroValue9
  t20 := Tryz.underlying20
  a20 := Tryz.isAgg20
  z20 := Tryz.sizeOf20
  v20 := Tryz.zeroValue20
  t21 := Tryz.underlying21
  a21 := Tryz.isAgg21
  z21 := Tryz.sizeOf21
  v21 := Tryz.zeroValue21
  t37 := Tryz.underlying22
  a37 := Tryz.isAgg22
  z37 := Tryz.sizeOf22
  v37 := Tryz.zeroValue22
  t46 := Tryz.underlying124
  a46 := Tryz.isAgg124
  z46 := Tryz.sizeOf124
  v46 := Tryz.zeroValue124
  t51 := Tryz.underlying151
  a51 := Tryz.isAgg151
  z51 := Tryz.sizeOf151
  v51 := Tryz.zeroValue151
  t53 := Tryz.underlying59
  a53 := Tryz.isAgg59
  z53 := Tryz.sizeOf59
  v53 := Tryz.zeroValue59
  t75 := Tryz.underlying98
  a75 := Tryz.isAgg98
  z75 := Tryz.sizeOf98
  v75 := Tryz.zeroValue98
  t76 := Tryz.underlying99
  a76 := Tryz.isAgg99
  z76 := Tryz.sizeOf99
  v76 := Tryz.zeroValue99
  t85 := Tryz.underlying137
  a85 := Tryz.isAgg137
  z85 := Tryz.sizeOf137
  v85 := Tryz.zeroValue137
  t127 := Tryz.underlying132
  a127 := Tryz.isAgg132
  z127 := Tryz.sizeOf132
  v127 := Tryz.zeroValue132
  t143 := Tryz.underlying181
  a143 := Tryz.isAgg181
  z143 := Tryz.sizeOf181
  v143 := Tryz.zeroValue181
  t145 := Tryz.underlying183
  a145 := Tryz.isAgg183
  z145 := Tryz.sizeOf183
  v145 := Tryz.zeroValue183
  t167 := Tryz.underlying136
  a167 := Tryz.isAgg136
  z167 := Tryz.sizeOf136
  v167 := Tryz.zeroValue136
  t168 := Tryz.underlying139
  a168 := Tryz.isAgg139
  z168 := Tryz.sizeOf139
  v168 := Tryz.zeroValue139
  t171 := Tryz.underlying153
  a171 := Tryz.isAgg153
  z171 := Tryz.sizeOf153
  v171 := Tryz.zeroValue153
  t173 := Tryz.underlying155
  a173 := Tryz.isAgg155
  z173 := Tryz.sizeOf155
  v173 := Tryz.zeroValue155
  t175 := Tryz.underlying160
  a175 := Tryz.isAgg160
  z175 := Tryz.sizeOf160
  v175 := Tryz.zeroValue160
  t210 := Tryz.underlying163
  a210 := Tryz.isAgg163
  z210 := Tryz.sizeOf163
  v210 := Tryz.zeroValue163
  t212 := Tryz.underlying172
  a212 := Tryz.isAgg172
  z212 := Tryz.sizeOf172
  v212 := Tryz.zeroValue172
  t213 := Tryz.underlying173
  a213 := Tryz.isAgg173
  z213 := Tryz.sizeOf173
  t232 := Tryz.underlying187
  a232 := Tryz.isAgg187
  z232 := Tryz.sizeOf187
  v232 := Tryz.zeroValue187
  t233 := Tryz.underlying188
  a233 := Tryz.isAgg188
  z233 := Tryz.sizeOf188
  v233 := Tryz.zeroValue188
  g15 := by kernel_rfl
  g16 := by kernel_rfl
  g17 := by kernel_rfl
  g18 := by kernel_rfl
  g19 := by kernel_rfl
  t80 := Tryz.underlying77
  a80 := Tryz.isAgg77
  z80 := Tryz.sizeOf77
  v80 := Tryz.zeroValue77
  i0 := by kernel_rfl
  i2 := by kernel_rfl
  i3 := by kernel_rfl
  i4 := by kernel_rfl
  i5 := by kernel_rfl
  i9 := by kernel_rfl
  i20 := by kernel_rfl
  i21 := by kernel_rfl
  i37 := by kernel_rfl
  i46 := by kernel_rfl
  i51 := by kernel_rfl
  i53 := by kernel_rfl
  i75 := by kernel_rfl
  i76 := by kernel_rfl
  i80 := by kernel_rfl
  i85 := by kernel_rfl
  i127 := by kernel_rfl
  i143 := by kernel_rfl
  i145 := by kernel_rfl
  i167 := by kernel_rfl
  i168 := by kernel_rfl
  i171 := by kernel_rfl
  i173 := by kernel_rfl
  i175 := by kernel_rfl
  i210 := by kernel_rfl
  i212 := by kernel_rfl
  i232 := by kernel_rfl
  i233 := by kernel_rfl
  m15 := by kernel_rfl
  m16 := by kernel_rfl
  m17 := by kernel_rfl
  m18 := by kernel_rfl
  m19 := by kernel_rfl
  c0 := by kernel_rfl
  c2 := by kernel_rfl
  c3 := by kernel_rfl
  c4 := by kernel_rfl
  c5 := by kernel_rfl
  c9 := by kernel_rfl
  c20 := by kernel_rfl
  c21 := by kernel_rfl
  c37 := by kernel_rfl
  c46 := by kernel_rfl
  c51 := by kernel_rfl
  c53 := by kernel_rfl
  c75 := by kernel_rfl
  c76 := by kernel_rfl
  c80 := by kernel_rfl
  c85 := by kernel_rfl
  c127 := by kernel_rfl
  c143 := by kernel_rfl
  c145 := by kernel_rfl
  c167 := by kernel_rfl
  c168 := by kernel_rfl
  c171 := by kernel_rfl
  c173 := by kernel_rfl
  c175 := by kernel_rfl
  c210 := by kernel_rfl
  c212 := by kernel_rfl
  c213 := by kernel_rfl
  c232 := by kernel_rfl
  c233 := by kernel_rfl }
end Go.Proofs

set_option linter.unusedVariables false
set_option linter.unusedSimpArgs false
set_option maxRecDepth 100000
namespace Go.Proofs.YtmlmmgeadombbaaGreatDoor
open Go Go.AV Go.M
attribute [local irreducible] OpW OpA OpS AWP FSpec ESpec GSpec OpE RetOk RetOkG RvDen Le Ev GuardIs SrcIs Int.tmod Int.tdiv IntKind.wrap
def readW (w : World) : Prop := tabW w ∧ (∃ m, w.cell? ⟨0, 0, none⟩ = some (.int .i64 m)) ∧ (∃ tp p, w.var? Tryz.prog "strconv.ErrSyntax" = some #[.iface tp p]) ∧ (∃ tp p, w.var? Tryz.prog "strconv.ErrRange" = some #[.iface tp p])
theorem readW_heap {W w' : World} (h : readW W) (hw : RLe (heapR W) w') : readW w' :=
  let ⟨h1, ⟨m, h2⟩, ⟨t3, p3, h3⟩, ⟨t4, p4, h4⟩⟩ := h
  ⟨tabW_heap h1 hw, ⟨m, cell_heap h2 hw⟩, ⟨t3, p3, var_heap h3 hw⟩, ⟨t4, p4, var_heap h4 hw⟩⟩
theorem split_spec (s : Str) (c : UInt8) (hs : s.length ≤ 1048576) : FSpec Tryz.prog 41 [AV.wt readW (AV.str s), AV.str [c]] (strs (splitC c s)) := by
  have hsz : (ByteArray.mk s.toArray).size = s.length := size_mk s
  have hle := Lib.countB_le ⟨#[c]⟩ (Nat.le_refl 1) _ ⟨s.toArray⟩ (Nat.le_refl _)
  have hlen := Lib.splitB_all ⟨#[c]⟩ (Nat.le_refl 1) 0 _ ⟨s.toArray⟩ rfl
  refine fspec_of_gspec (pieces_own (T := readW) (t := 9) (s := s) (c := c) (ps := Lib.splitB ⟨#[c]⟩ 0 (Lib.countB ⟨s.toArray⟩ ⟨#[c]⟩) ⟨s.toArray⟩) ?_ ?_ fun w hT => ?_) fun v _ => lt_arr (List.mem_singleton.2 rfl) le_refl_e
  · rw [Lib.splitB_data]
    show Lib.splitK [c] 0 (Lib.count s [c]) s = _
    rw [Lib.count_one]
    exact split_rec c s _ rfl
  · rw [hlen]; unfold maxLen; omega
  · obtain ⟨_, ⟨m, hm⟩, _⟩ := hT
    refine (Any.strings_Split Tryz.split (by kernel_rfl) ⟨s.toArray⟩ ⟨#[c]⟩ m w (by rw [hsz]; omega) hm (Nat.le_refl 1)).mono fun e w' ⟨e1, e2⟩ => ?_
    rw [hlen]
    exact ⟨e1, e2⟩
theorem cut_spec (s : Str) (c : UInt8) (hs : s.length ≤ 1048576) : FSpec Tryz.prog 124 [AV.wt readW (AV.str s), AV.str [c]] (AV.tup [AV.str (Lib.cut s [c]).1, AV.str (Lib.cut s [c]).2.1, AV.bool (Lib.cut s [c]).2.2]) :=
  fspec_wtL fun R w v vs hr hx hd hT => by
    match vs, hd.1 with
    | [u], _ =>
      obtain ⟨_, ⟨m, hm⟩, _⟩ := hT
      have hsz : (ByteArray.mk s.toArray).size = s.length := size_mk s
      rw [show v = Value.string ⟨s.toArray⟩ from hx, show u = Value.string ⟨#[c]⟩ from hd.2 1 u _ rfl rfl]
      refine (Any.strings_Cut Tryz.cut ⟨s.toArray⟩ ⟨#[c]⟩ m w (by rw [hsz]; omega) hm).mono ?_
      rintro e w' ⟨rfl, n, rfl⟩
      exact ⟨_, rfl, ⟨_, rfl, DenV.cons rfl (DenV.cons rfl (DenV.cons rfl (DenV.nil _)))⟩, below_drew w n⟩
theorem trimSuffix_spec (s p : Str) (hs : s.length ≤ 1048576) : FSpec Tryz.prog 125 [AV.str s, AV.str p] (AV.str (Lib.trimSuffix s p)) :=
  fspec_lib2 fun R w u v hu hv => by
    have hsz : (ByteArray.mk s.toArray).size = s.length := size_mk s
    rw [show u = Value.string ⟨s.toArray⟩ from hu, show v = Value.string ⟨p.toArray⟩ from hv]
    refine (Any.strings_TrimSuffix Tryz.trimSuffix ⟨s.toArray⟩ ⟨p.toArray⟩ w (by rw [hsz]; omega)).mono ?_
    rintro e w' ⟨rfl, rfl⟩
    exact ⟨_, rfl, rfl, below_same w'⟩
theorem atoi_spec (s : Str) (hs : s.length ≤ 1048576) : FSpec Tryz.prog 102 [AV.wt readW (AV.str s)] (AV.tup [AV.int (atoiV s), AV.errB (atoiBad s)]) :=
  fspec_wt fun R w v hr hx hT => by
    have hsz : (ByteArray.mk s.toArray).size = s.length := size_mk s
    obtain ⟨_, _, ⟨t3, p3, h3⟩, ⟨t4, p4, h4⟩⟩ := hT
    rw [show v = Value.string ⟨s.toArray⟩ from hx]
    rcases ha : Lib.atoiAll s with n | _ | _
    · have e1 : atoiV s = n := by unfold atoiV; rw [ha]
      have e2 : atoiBad s = false := by unfold atoiBad; rw [ha]
      rw [e1, e2]
      refine (Any.strconv_Atoi_ok Tryz.atoi ⟨s.toArray⟩ (by rw [hsz]; omega) n ha w).mono ?_
      rintro e w' ⟨rfl, hw⟩
      exact ⟨_, rfl, ⟨_, rfl, DenV.cons rfl (DenV.cons ⟨fun _ => rfl, fun h => (by cases h)⟩ (DenV.nil _))⟩, by (rcases hw with rfl | ⟨t, rfl⟩); exact below_same _; exact below_bytes _ _ _⟩
    · have e1 : atoiV s = 0 := by unfold atoiV; rw [ha]
      have e2 : atoiBad s = true := by unfold atoiBad; rw [ha]
      rw [e1, e2]
      refine (Any.strconv_Atoi_syntax_var Tryz.atoi ⟨s.toArray⟩ (by rw [hsz]; omega) ha t3 p3 w h3).mono ?_
      rintro e w' ⟨N, rfl, _, _, hb⟩
      exact ⟨_, rfl, ⟨_, rfl, DenV.cons rfl (DenV.cons ⟨fun h => (by cases h), fun _ => ⟨_, _, rfl⟩⟩ (DenV.nil _))⟩, hb⟩
    · have e1 : atoiV s = Lib.atoiSat s := by unfold atoiV; rw [ha]
      have e2 : atoiBad s = true := by unfold atoiBad; rw [ha]
      rw [e1, e2]
      refine (Any.strconv_Atoi_range_var Tryz.atoi ⟨s.toArray⟩ (by rw [hsz]; omega) ha t4 p4 w h4).mono ?_
      rintro e w' ⟨N, rfl, _, _, hb⟩
      exact ⟨_, rfl, ⟨_, rfl, DenV.cons rfl (DenV.cons ⟨fun h => (by cases h), fun _ => ⟨_, _, rfl⟩⟩ (DenV.nil _))⟩, hb⟩
end Go.Proofs.YtmlmmgeadombbaaGreatDoor

set_option linter.unusedVariables false
set_option linter.unusedSimpArgs false
set_option maxRecDepth 100000
set_option maxHeartbeats 1000000
namespace Go.M
open Go.AV
theorem atoiV_rng (s : Str) : -9223372036854775808 ≤ atoiV s ∧ atoiV s ≤ 9223372036854775807 := by
  unfold atoiV
  split
  · rename_i h; exact Lib.atoiAll_bounds h
  · unfold Lib.atoiSat; split <;> omega
  · omega
theorem bad_cons (b : UInt8) (r : Str) : l1BadB (b :: r) = (!within ((b :: r).length : Nat) 1 6 || (((b.toNat : Int) == 48) && decide ((1 : Int) < ((b :: r).length : Nat)))) := by
  unfold l1BadB
  have : (b == 48) = ((b.toNat : Int) == 48) := by
    by_cases h : b = 48
    · subst h; rfl
    · have h2 : b.toNat ≠ 48 := fun e => h (UInt8.toNat_inj.1 e)
      have h3 : (b == 48) = false := by simpa using h
      rw [h3]; symm; simp; omega
  simp [this]
theorem dig_val {x : UInt8} (h : 48 ≤ x.toNat ∧ x.toNat ≤ 57) : IntKind.i64.wrap (IntKind.u8.wrap ((x.toNat : Int) - 48)) = ((x.toNat - 48 : Nat) : Int) := by
  have e : IntKind.u8.wrap ((x.toNat : Int) - 48) = ((x.toNat - 48 : Nat) : Int) := by
    simp [IntKind.wrap, IntKind.bits, IntKind.signed]; omega
  rw [e, in64 (by omega)]
theorem rd_next {n i : Nat} {s : Str} {x : UInt8} (hx : s[i]? = some x) (h : 48 ≤ x.toNat ∧ x.toNat ≤ 57) : rdFrom n (s.drop i) = rdFrom (10 * n + (x.toNat - 48)) (s.drop (i + 1)) := by
  have hlt := (List.getElem?_eq_some_iff.1 hx).1
  rw [List.drop_eq_getElem_cons hlt, (List.getElem?_eq_some_iff.1 hx).2]
  conv => lhs; unfold rdFrom
  rw [if_pos (by unfold isDig; simp; omega)]
theorem rd_stop {n i : Nat} {s : Str} {x : UInt8} (hx : s[i]? = some x) (h : x.toNat < 48 ∨ 57 < x.toNat) : rdFrom n (s.drop i) = -1 := by
  have hlt := (List.getElem?_eq_some_iff.1 hx).1
  rw [List.drop_eq_getElem_cons hlt, (List.getElem?_eq_some_iff.1 hx).2]
  conv => lhs; unfold rdFrom
  rw [if_neg (by unfold isDig; simp; omega)]
theorem pow6 {i : Nat} (h : i ≤ 6) : 10 ^ i ≤ 1000000 := Nat.pow_le_pow_right (by decide) h
theorem pow_nx {n i d : Nat} (h : n + 1 ≤ 10 ^ i) (hd : d ≤ 9) : (10 * n + d) + 1 ≤ 10 ^ (i + 1) := by rw [Nat.pow_succ]; omega
end Go.M
namespace Go.Proofs.YtmlmmgeadombbaaGreatDoor
open Go Go.AV Go.M
attribute [local irreducible] OpW OpA OpS AWP FSpec ESpec GSpec OpE RetOk RetOkG RvDen Le Ev GuardIs SrcIs Int.tmod Int.tdiv IntKind.wrap
theorem readInt_spec (s : Str) (lo hi : Int) (hs : s.length ≤ 1048576) : FSpec Tryz.prog 46 [AV.wt readW (AV.str s), AV.int lo, AV.int hi] (AV.tup [AV.int (readI s lo hi).1, AV.bool (readI s lo hi).2]) := by
  refine spec_of_awp Tryz.func46 rfl Tryz.ntmps46 rfl ?_
  refine AWP.le (le_tab (t := 0) rfl) ?_
  refine awp_seq ?_
  refine awp_region ?_
  refine sq_plain rfl rfl rfl (w_assign rfl ev_ci) ?_
  refine sq_plain rfl rfl rfl (w_assign rfl ev_cb) ?_
  refine sq_nil ?_
  refine awp_seq ?_
  refine awp_region ?_
  refine sq_plain rfl rfl rfl (w_move rfl (ev_tmp rfl)) ?_
  refine sq_plain rfl rfl rfl (w_callT 0 rfl rfl Tryz.call102 rfl (atoi_spec s hs) (evl_cons (ev_tmp rfl) evl_nil) (by first | exact fun _ h => h | exact fun _ h => h.1)) ?_
  refine sq_plain rfl rfl rfl (w_move rfl (ev_tmp rfl)) ?_
  refine sq_plain rfl rfl rfl (w_extract rfl (ev_tmp rfl) rfl) ?_
  refine sq_plain rfl rfl rfl (w_extract rfl (ev_tmp rfl) rfl) ?_
  refine sq_plain rfl rfl rfl (w_assign rfl (ev_tmp rfl)) ?_
  refine sq_plain rfl rfl rfl (w_assign rfl (ev_tmp rfl)) ?_
  refine sq_nil ?_
  refine awp_seq ?_
  refine awp_seq ?_
  refine awp_region ?_
  refine sq_plain rfl rfl rfl (w_move rfl (ev_tmp rfl)) ?_
  refine sq_plain rfl rfl rfl (w_errneq rfl (by kernel_rfl) (ev_tmp rfl)) ?_
  refine sq_plain rfl rfl rfl (w_move rfl (ev_tmp rfl)) ?_
  refine sq_grd rfl rfl (guard_f rfl rfl rfl) (fun hc => w_move rfl (ev_tmp rfl)) ?_
  refine sq_grd rfl rfl (guard_f rfl rfl rfl) (fun hc => w_move rfl (ev_tmp rfl)) ?_
  refine sq_grd rfl rfl (guard_f rfl rfl rfl) (fun hc => w_move rfl (ev_tmp rfl)) ?_
  refine sq_grd rfl rfl (guard_f rfl rfl rfl) (fun hc => w_call rfl Tryz.call62 rfl (within_spec _ _ _) (evl_cons (ev_whn rfl hc) (evl_cons (ev_whn rfl hc) (evl_cons (ev_whn rfl hc) evl_nil)))) ?_
  refine sq_grd rfl rfl (guard_f rfl rfl rfl) (fun hc => w_not rfl (ev_whn rfl hc)) ?_
  refine sq_plain rfl rfl rfl (w_or rfl (ev_tmp rfl) (evif_w rfl)) ?_
  refine sq_plain rfl rfl rfl (w_move rfl (ev_tmp rfl)) ?_
  refine sq_grd rfl rfl (guard_f rfl rfl rfl) (fun hc => w_move rfl (ev_tmp rfl)) ?_
  refine sq_grd rfl rfl (guard_f rfl rfl rfl) (fun hc => w_callT 0 rfl rfl Tryz.call96 rfl (itoa_spec (atoiV s) (atoiV_rng s)) (evl_cons (ev_whn rfl hc) evl_nil) (by first | exact fun _ h => h | exact fun _ h => h.1)) ?_
  refine sq_grd rfl rfl (guard_f rfl rfl rfl) (fun hc => w_move rfl (ev_tmp rfl)) ?_
  refine sq_grd rfl rfl (guard_f rfl rfl rfl) (fun hc => w_sneq rfl (ev_whn rfl hc) (ev_whn rfl hc)) ?_
  refine sq_plain rfl rfl rfl (w_or rfl (ev_tmp rfl) (evif_w rfl)) ?_
  refine sq_nil ?_
  refine awp_cond (ev_tmp rfl) ?_ ?_
  · intro h29
    have he : readI s lo hi = (0, false) := if_pos h29
    rw [he]
    refine awp_seq ?_
    refine awp_region ?_
    refine sq_plain rfl rfl rfl (w_assign rfl ev_ci) ?_
    refine sq_plain rfl rfl rfl (w_assign rfl ev_cb) ?_
    refine sq_nil ?_
    refine awp_ret ?_
    exact retN rfl (by decide) (rv_cons (rv_tmp' rfl (by rfl)) (rv_cons (rv_tmp' rfl (by rfl)) rv_nil))
  · intro h29
    have he : readI s lo hi = (atoiV s, true) := if_neg (by rw [h29]; decide)
    rw [he]
    refine awp_skip ?_
    refine awp_seq ?_
    refine awp_region ?_
    refine sq_plain rfl rfl rfl (w_move rfl (ev_tmp rfl)) ?_
    refine sq_plain rfl rfl rfl (w_assign rfl (ev_tmp rfl)) ?_
    refine sq_plain rfl rfl rfl (w_assign rfl ev_cb) ?_
    refine sq_nil ?_
    refine awp_ret ?_
    exact retN rfl (by decide) (rv_cons (rv_tmp' rfl (by rfl)) (rv_cons (rv_tmp' rfl (by rfl)) rv_nil))
theorem l1Read_nil : FSpec Tryz.prog 86 [AV.str []] (AV.int (l1R [])) := by
  refine spec_of_awp Tryz.func86 rfl Tryz.ntmps86 rfl ?_
  refine awp_seq ?_
  refine awp_region ?_
  refine sq_plain rfl rfl rfl (w_assign rfl ev_ci) ?_
  refine sq_nil ?_
  refine awp_seq ?_
  refine awp_seq ?_
  refine awp_region ?_
  refine sq_plain rfl rfl rfl (w_move rfl (ev_tmp rfl)) ?_
  refine sq_plain rfl rfl rfl (w_slen rfl Tryz.underlying9 (ev_tmp rfl)) ?_
  refine sq_plain rfl rfl rfl (w_call rfl Tryz.call109 rfl (l1In_spec _ _ _) (evl_cons (ev_tmp rfl) (evl_cons ev_ci (evl_cons ev_ci evl_nil)))) ?_
  refine sq_plain rfl rfl rfl (w_not rfl (ev_tmp rfl)) ?_
  refine sq_plain rfl rfl rfl (w_move rfl (ev_tmp rfl)) ?_
  refine sq_grd rfl rfl (guard_f rfl rfl rfl) (fun hc => w_move rfl (ev_tmp rfl)) ?_
  refine sq_grd rfl rfl (guard_f rfl rfl rfl) (fun hc => (show OpW _ _ _ _ _ _ (AV.byte 0) from (by exfalso; revert hc; decide))) ?_
  refine sq_grd rfl rfl (guard_f rfl rfl rfl) (fun hc => w_eql rfl (ev_whn rfl hc) ev_ci) ?_
  refine sq_grd rfl rfl (guard_f rfl rfl rfl) (fun hc => w_move rfl (ev_whn rfl hc)) ?_
  refine sq_grd rfl rfl (guard_wt rfl rfl rfl) (fun hc => w_move rfl (ev_tmp rfl)) ?_
  refine sq_grd rfl rfl (guard_wt rfl rfl rfl) (fun hc => w_slen rfl Tryz.underlying9 (ev_whn rfl hc)) ?_
  refine sq_grd rfl rfl (guard_wt rfl rfl rfl) (fun hc => w_gtr rfl (ev_whn rfl hc) ev_ci) ?_
  refine sq_grd rfl rfl (guard_f rfl rfl rfl) (fun hc => w_and rfl (ev_whn rfl hc) (evif_w2 rfl hc)) ?_
  refine sq_plain rfl rfl rfl (w_or rfl (ev_tmp rfl) (evif_w rfl)) ?_
  refine sq_nil ?_
  refine awp_cond (ev_tmp rfl) ?_ ?_
  · intro h18
    refine awp_seq ?_
    refine awp_region ?_
    refine sq_plain rfl rfl rfl (w_assign rfl ev_ci) ?_
    refine sq_nil ?_
    refine awp_ret ?_
    exact retR rfl (rv_tmp' rfl (by rfl))
  · intro h18
    exfalso; revert h18; decide
theorem l1Read_cons (b : UInt8) (r : Str) (hs : (b :: r).length ≤ 1048576) : FSpec Tryz.prog 86 [AV.str (b :: r)] (AV.int (l1R (b :: r))) := by
  have hb0 : (b :: r)[0]? = some b := rfl
  obtain ⟨s, hse⟩ : ∃ s, b :: r = s := ⟨_, rfl⟩
  have hbad := bad_cons b r
  rw [hse] at hs hb0 hbad ⊢
  refine spec_of_awp Tryz.func86 rfl Tryz.ntmps86 rfl ?_
  refine awp_seq ?_
  refine awp_region ?_
  refine sq_plain rfl rfl rfl (w_assign rfl ev_ci) ?_
  refine sq_nil ?_
  refine awp_seq ?_
  refine awp_seq ?_
  refine awp_region ?_
  refine sq_plain rfl rfl rfl (w_move rfl (ev_tmp rfl)) ?_
  refine sq_plain rfl rfl rfl (w_slen rfl Tryz.underlying9 (ev_tmp rfl)) ?_
  refine sq_plain rfl rfl rfl (w_call rfl Tryz.call109 rfl (l1In_spec _ _ _) (evl_cons (ev_tmp rfl) (evl_cons ev_ci (evl_cons ev_ci evl_nil)))) ?_
  refine sq_plain rfl rfl rfl (w_not rfl (ev_tmp rfl)) ?_
  refine sq_plain rfl rfl rfl (w_move rfl (ev_tmp rfl)) ?_
  refine sq_grd rfl rfl (guard_f rfl rfl rfl) (fun hc => w_move rfl (ev_tmp rfl)) ?_
  refine sq_grd rfl rfl (guard_f rfl rfl rfl) (fun hc => w_sidx rfl Tryz.underlying9 (ev_whn rfl hc) ev_ci (by have := (List.getElem?_eq_some_iff.1 hb0).1; omega) hb0) ?_
  refine sq_grd rfl rfl (guard_f rfl rfl rfl) (fun hc => w_eql rfl (ev_whn rfl hc) ev_ci) ?_
  refine sq_grd rfl rfl (guard_f rfl rfl rfl) (fun hc => w_move rfl (ev_whn rfl hc)) ?_
  refine sq_grd rfl rfl (guard_wt rfl rfl rfl) (fun hc => w_move rfl (ev_tmp rfl)) ?_
  refine sq_grd rfl rfl (guard_wt rfl rfl rfl) (fun hc => w_slen rfl Tryz.underlying9 (ev_whn rfl hc)) ?_
  refine sq_grd rfl rfl (guard_wt rfl rfl rfl) (fun hc => w_gtr rfl (ev_whn rfl hc) ev_ci) ?_
  refine sq_grd rfl rfl (guard_f rfl rfl rfl) (fun hc => w_and rfl (ev_whn rfl hc) (evif_w2 rfl hc)) ?_
  refine sq_plain rfl rfl rfl (w_or rfl (ev_tmp rfl) (evif_w rfl)) ?_
  refine sq_nil ?_
  refine awp_cond (ev_tmp rfl) ?_ ?_
  · intro h18
    have he : l1R s = -1 := if_pos (by rw [hbad]; exact h18)
    rw [he]
    refine awp_seq ?_
    refine awp_region ?_
    refine sq_plain rfl rfl rfl (w_assign rfl ev_ci) ?_
    refine sq_nil ?_
    refine awp_ret ?_
    exact retR rfl (rv_tmp' rfl (by rfl))
  · intro h18
    have he : l1R s = rdFrom 0 s := if_neg (by rw [hbad, h18]; decide)
    rw [he]
    have hl6 : s.length ≤ 6 := (by simp only [Bool.or_eq_false_iff, Bool.not_eq_false'] at h18; have h9 := h18.1; unfold within at h9; simp at h9; omega)
    refine awp_skip ?_
    refine awp_seq ?_
    refine awp_region ?_
    refine sq_plain rfl rfl rfl (w_assign rfl ev_ci) ?_
    refine sq_nil ?_
    refine awp_seq ?_
    refine awp_seq ?_
    refine awp_region ?_
    refine sq_plain rfl rfl rfl (w_assign rfl ev_ci) ?_
    refine sq_nil ?_
    refine awp_block ?_
    refine awp_loop_i2 [(0, _)] _ (fun (i : Nat) (n : Nat) => i ≤ s.length ∧ rdFrom 0 s = rdFrom n (s.drop i) ∧ n + 1 ≤ 10 ^ i) (fun (i : Nat) (n : Nat) => []) (fun (i : Nat) (n : Nat) => [(3, AV.int n), (4, AV.int i)]) (fun (i : Nat) (n : Nat) => s.length - i) (0) (0) ?_ (le_env ⟨rfl, rfl, rfl, trivial⟩) ?_
    · exact ⟨Nat.zero_le _, rfl, by decide⟩
    intro i n hinv
    have hp6 := pow6 (i := i) (by omega)
    have hn6 := hinv.2.2
    refine awp_seq ?_
    refine awp_seq ?_
    refine awp_region ?_
    refine sq_plain rfl rfl rfl (w_move rfl (ev_tmp rfl)) ?_
    refine sq_plain rfl rfl rfl (w_move rfl (ev_tmp rfl)) ?_
    refine sq_plain rfl rfl rfl (w_slen rfl Tryz.underlying9 (ev_tmp rfl)) ?_
    refine sq_plain rfl rfl rfl (w_lss rfl (ev_tmp rfl) (ev_tmp rfl)) ?_
    refine sq_nil ?_
    refine awp_cond (ev_tmp rfl) ?_ ?_
    · intro h22
      have k22 := of_decide_eq_true h22; try simp only [List.length_map] at k22
      obtain ⟨x, hx⟩ := get_some (show i < s.length by omega)
      refine awp_skip ?_
      refine awp_seq ?_
      refine awp_block ?_
      refine awp_seq ?_
      refine awp_seq ?_
      refine awp_region ?_
      refine sq_plain rfl rfl rfl (w_move rfl (ev_tmp rfl)) ?_
      refine sq_plain rfl rfl rfl (w_move rfl (ev_tmp rfl)) ?_
      refine sq_plain rfl rfl rfl (w_sidx rfl Tryz.underlying9 (ev_tmp rfl) (ev_tmp rfl) (by omega) hx) ?_
      refine sq_plain rfl rfl rfl (w_lss rfl (ev_tmp rfl) ev_ci) ?_
      refine sq_plain rfl rfl rfl (w_move rfl (ev_tmp rfl)) ?_
      refine sq_grd rfl rfl (guard_f rfl rfl rfl) (fun hc => w_move rfl (ev_tmp rfl)) ?_
      refine sq_grd rfl rfl (guard_f rfl rfl rfl) (fun hc => w_move rfl (ev_tmp rfl)) ?_
      refine sq_grd rfl rfl (guard_f rfl rfl rfl) (fun hc => w_sidx rfl Tryz.underlying9 (ev_whn rfl hc) (ev_whn rfl hc) (by omega) hx) ?_
      refine sq_grd rfl rfl (guard_f rfl rfl rfl) (fun hc => w_gtr rfl (ev_whn rfl hc) ev_ci) ?_
      refine sq_plain rfl rfl rfl (w_or rfl (ev_tmp rfl) (evif_w rfl)) ?_
      refine sq_nil ?_
      refine awp_cond (ev_tmp rfl) ?_ ?_
      · intro h34
        have hst := rd_stop (n := n) hx (by simp only [Bool.or_eq_true, decide_eq_true_eq] at h34; omega)
        rw [hinv.2.1, hst]
        refine awp_seq ?_
        refine awp_region ?_
        refine sq_plain rfl rfl rfl (w_assign rfl ev_ci) ?_
        refine sq_nil ?_
        refine awp_ret ?_
        exact retR rfl (rv_tmp' rfl (by rfl))
      · intro h34
        have hdig : 48 ≤ x.toNat ∧ x.toNat ≤ 57 := (by simp only [Bool.or_eq_false_iff, decide_eq_false_iff_not] at h34; omega)
        refine awp_skip ?_
        refine awp_region ?_
        refine sq_plain rfl rfl rfl (w_move rfl (ev_tmp rfl)) ?_
        refine sq_plain rfl rfl rfl (w_muli rfl ev_ci (ev_tmp rfl) (by first | omega | ((try simp only [List.length_map, List.length_take, List.length_cons, List.length_nil, chunks_len, szR] at *); omega) | (have hc2 := hc; simp only [Bool.and_eq_true, Bool.or_eq_true, Bool.or_eq_false_iff, Bool.and_eq_false_iff, Bool.not_eq_true', Bool.not_eq_false', decide_eq_true_eq, decide_eq_false_iff_not, beq_iff_eq, bne_iff_ne, List.length_map, List.length_take] at hc2; omega))) ?_
        refine sq_plain rfl rfl rfl (w_move rfl (ev_tmp rfl)) ?_
        refine sq_plain rfl rfl rfl (w_move rfl (ev_tmp rfl)) ?_
        refine sq_plain rfl rfl rfl (w_sidx rfl Tryz.underlying9 (ev_tmp rfl) (ev_tmp rfl) (by omega) hx) ?_
        refine sq_plain rfl rfl rfl (w_sub rfl (ev_tmp rfl) ev_ci) ?_
        refine sq_plain rfl rfl rfl (w_conv rfl (by kernel_rfl) Tryz.underlying3 (ev_tmp rfl)) ?_
        rw [dig_val hdig]
        refine sq_plain rfl rfl rfl (w_addi rfl (ev_tmp rfl) (ev_tmp rfl) (by first | omega | ((try simp only [List.length_map, List.length_take, List.length_cons, List.length_nil, chunks_len, szR] at *); omega) | (have hc2 := hc; simp only [Bool.and_eq_true, Bool.or_eq_true, Bool.or_eq_false_iff, Bool.and_eq_false_iff, Bool.not_eq_true', Bool.not_eq_false', decide_eq_true_eq, decide_eq_false_iff_not, beq_iff_eq, bne_iff_ne, List.length_map, List.length_take] at hc2; omega))) ?_
        refine sq_plain rfl rfl rfl (w_assign rfl (ev_tmp rfl)) ?_
        refine sq_nil ?_
        refine awp_region ?_
        refine sq_plain rfl rfl rfl (w_move rfl (ev_tmp rfl)) ?_
        refine sq_plain rfl rfl rfl (w_addi rfl (ev_tmp rfl) ev_ci (by first | omega | ((try simp only [List.length_map, List.length_take, List.length_cons, List.length_nil, chunks_len, szR] at *); omega) | (have hc2 := hc; simp only [Bool.and_eq_true, Bool.or_eq_true, Bool.or_eq_false_iff, Bool.and_eq_false_iff, Bool.not_eq_true', Bool.not_eq_false', decide_eq_true_eq, decide_eq_false_iff_not, beq_iff_eq, bne_iff_ne, List.length_map, List.length_take] at hc2; omega))) ?_
        refine sq_plain rfl rfl rfl (w_assign rfl (ev_tmp rfl)) ?_
        refine sq_nil ?_
        refine round_end2 i n (i + 1) (10 * n + (x.toNat - 48)) ?_ ?_ (le_env ⟨congrArg (fun z => some (AV.int z)) (by omega), rfl, rfl, trivial⟩)
        · exact ⟨by omega, hinv.2.1.trans (rd_next hx hdig), pow_nx hinv.2.2 (by omega)⟩
        · omega
    · intro h22
      have k22 := of_decide_eq_false h22; try simp only [List.length_map] at k22
      have hend : rdFrom 0 s = (n : Int) := (by rw [hinv.2.1, List.drop_of_length_le (by omega)]; rfl)
      rw [hend]
      refine awp_exit ?_
      refine awp_seq ?_
      refine awp_region ?_
      refine sq_plain rfl rfl rfl (w_move rfl (ev_tmp rfl)) ?_
      refine sq_plain rfl rfl rfl (w_assign rfl (ev_tmp rfl)) ?_
      refine sq_nil ?_
      refine awp_ret ?_
      exact retR rfl (rv_tmp' rfl (by rfl))
theorem l1Read_spec (s : Str) (hs : s.length ≤ 1048576) : FSpec Tryz.prog 86 [AV.str s] (AV.int (l1R s)) := by
  cases s with
  | nil => exact l1Read_nil
  | cons b r => exact l1Read_cons b r hs
theorem l1Split_spec (s : Str) (c : UInt8) (hs : s.length ≤ 1048576) : FSpec Tryz.prog 50 [AV.str s, AV.ik .u8 (c.toNat : Int)] (strs (splitC c s)) := by
  refine spec_of_awp Tryz.func50 rfl Tryz.ntmps50 rfl ?_
  refine awp_seq ?_
  refine awp_region ?_
  refine sq_plain rfl rfl rfl (w_assign rfl (ev_cnil (sz := 1))) ?_
  refine sq_nil ?_
  refine awp_seq ?_
  refine awp_region ?_
  refine sq_nilarr 9 1 rfl rfl rfl rfl ev_cnils ?_
  intro v5
  refine sq_nil ?_
  refine awp_seq ?_
  refine awp_region ?_
  refine sq_plain rfl rfl rfl (w_assign rfl ev_ci) ?_
  refine sq_nil ?_
  refine awp_seq ?_
  refine awp_seq ?_
  refine awp_region ?_
  refine sq_plain rfl rfl rfl (w_assign rfl ev_ci) ?_
  refine sq_nil ?_
  refine awp_block ?_
  refine awp_loop_i4 [(0, _), (1, _), (4, _)] _ (fun (i : Nat) (fr : Nat) (acc : List Str) (v : Value) => SpOk c s acc fr i) (fun (i : Nat) (fr : Nat) (acc : List Str) (v : Value) => [.arr v 9 1 (acc.map fun t => [AV.str t])]) (fun (i : Nat) (fr : Nat) (acc : List Str) (v : Value) => [(5, AV.is v), (6, AV.int fr), (7, AV.int i)]) (fun (i : Nat) (fr : Nat) (acc : List Str) (v : Value) => s.length - i) (0) (0) ([]) (v5) ?_ (le_eq (by rfl) ⟨rfl, rfl, rfl, rfl, rfl, rfl, trivial⟩) ?_
  · exact spOk_start c s
  intro i fr acc v hinv
  have hk1 := hinv.2.1
  have hk2 := hinv.2.2.1
  have hk3 := hinv.2.2.2
  refine awp_seq ?_
  refine awp_seq ?_
  refine awp_region ?_
  refine sq_plain rfl rfl rfl (w_move rfl (ev_tmp rfl)) ?_
  refine sq_plain rfl rfl rfl (w_move rfl (ev_tmp rfl)) ?_
  refine sq_plain rfl rfl rfl (w_slen rfl Tryz.underlying9 (ev_tmp rfl)) ?_
  refine sq_plain rfl rfl rfl (w_lss rfl (ev_tmp rfl) (ev_tmp rfl)) ?_
  refine sq_nil ?_
  refine awp_cond (ev_tmp rfl) ?_ ?_
  · intro h11
    have k11 := of_decide_eq_true h11; try simp only [List.length_map] at k11
    obtain ⟨x, hx⟩ := get_some (show i < s.length by omega)
    refine awp_skip ?_
    refine awp_seq ?_
    refine awp_block ?_
    refine awp_seq ?_
    refine awp_region ?_
    refine sq_plain rfl rfl rfl (w_move rfl (ev_tmp rfl)) ?_
    refine sq_plain rfl rfl rfl (w_move rfl (ev_tmp rfl)) ?_
    refine sq_plain rfl rfl rfl (w_sidx rfl Tryz.underlying9 (ev_tmp rfl) (ev_tmp rfl) (by omega) hx) ?_
    refine sq_plain rfl rfl rfl (w_move rfl (ev_tmp rfl)) ?_
    refine sq_plain rfl rfl rfl (w_eql rfl (ev_tmp rfl) (ev_tmp rfl)) ?_
    refine sq_nil ?_
    refine awp_cond (ev_tmp rfl) ?_ ?_
    · intro h18
      have k18 := eq_of_beqt h18; try simp only [List.length_map] at k18
      have hxc : s[i]? = some c := (by rw [hx]; congr 1; exact UInt8.toNat_inj.1 (by omega))
      refine awp_seq ?_
      refine awp_region ?_
      refine sq_plain rfl rfl rfl (w_move rfl (ev_tmp rfl)) ?_
      refine sq_plain rfl rfl rfl (w_move rfl (ev_tmp rfl)) ?_
      refine sq_plain rfl rfl rfl (w_move rfl (ev_tmp rfl)) ?_
      refine sq_plain rfl rfl rfl (w_move rfl (ev_tmp rfl)) ?_
      refine sq_plain rfl rfl rfl (w_ssl_lohi rfl Tryz.underlying9 (ev_tmp rfl) (ev_tmp rfl) (ev_tmp rfl) (by first | omega | ((try simp only [List.length_map, List.length_take, List.length_cons, List.length_nil, chunks_len, szR] at *); omega) | (have hc2 := hc; simp only [Bool.and_eq_true, Bool.or_eq_true, Bool.or_eq_false_iff, Bool.and_eq_false_iff, Bool.not_eq_true', Bool.not_eq_false', decide_eq_true_eq, decide_eq_false_iff_not, beq_iff_eq, bne_iff_ne, List.length_map, List.length_take] at hc2; omega)) (by first | omega | ((try simp only [List.length_map, List.length_take, List.length_cons, List.length_nil, chunks_len, szR] at *); omega) | (have hc2 := hc; simp only [Bool.and_eq_true, Bool.or_eq_true, Bool.or_eq_false_iff, Bool.and_eq_false_iff, Bool.not_eq_true', Bool.not_eq_false', decide_eq_true_eq, decide_eq_false_iff_not, beq_iff_eq, bne_iff_ne, List.length_map, List.length_take] at hc2; omega)) (by first | omega | ((try simp only [List.length_map, List.length_take, List.length_cons, List.length_nil, chunks_len, szR] at *); omega) | (have hc2 := hc; simp only [Bool.and_eq_true, Bool.or_eq_true, Bool.or_eq_false_iff, Bool.and_eq_false_iff, Bool.not_eq_true', Bool.not_eq_false', decide_eq_true_eq, decide_eq_false_iff_not, beq_iff_eq, bne_iff_ne, List.length_map, List.length_take] at hc2; omega))) ?_
      refine sq_plain rfl rfl rfl (w_bslice rfl Tryz.underlying34 Tryz.sizeOf9 Tryz.zeroValue9 rfl rfl rfl rfl (bp_cons (ev_tmp rfl) (as_str _) bp_nil) rfl rfl) ?_
      refine sq_append (by' := 16) 0 rfl rfl rfl rfl Tryz.underlying34 Tryz.type9 rfl rfl rfl rfl rfl rfl (ev_tmp rfl) (ev_tmp rfl) rfl (by first | omega | ((try simp only [List.length_map, List.length_take, List.length_cons, List.length_nil, chunks_len, szR] at *); omega) | (have hc2 := hc; simp only [Bool.and_eq_true, Bool.or_eq_true, Bool.or_eq_false_iff, Bool.and_eq_false_iff, Bool.not_eq_true', Bool.not_eq_false', decide_eq_true_eq, decide_eq_false_iff_not, beq_iff_eq, bne_iff_ne, List.length_map, List.length_take] at hc2; omega)) ?_
      intro v25_1
      refine sq_plain rfl rfl rfl (w_assign rfl (ev_tmp rfl)) ?_
      refine sq_nil ?_
      refine awp_region ?_
      refine sq_plain rfl rfl rfl (w_move rfl (ev_tmp rfl)) ?_
      refine sq_plain rfl rfl rfl (w_addi rfl (ev_tmp rfl) ev_ci (by first | omega | ((try simp only [List.length_map, List.length_take, List.length_cons, List.length_nil, chunks_len, szR] at *); omega) | (have hc2 := hc; simp only [Bool.and_eq_true, Bool.or_eq_true, Bool.or_eq_false_iff, Bool.and_eq_false_iff, Bool.not_eq_true', Bool.not_eq_false', decide_eq_true_eq, decide_eq_false_iff_not, beq_iff_eq, bne_iff_ne, List.length_map, List.length_take] at hc2; omega))) ?_
      refine sq_plain rfl rfl rfl (w_assign rfl (ev_tmp rfl)) ?_
      refine sq_nil ?_
      refine awp_region ?_
      refine sq_plain rfl rfl rfl (w_move rfl (ev_tmp rfl)) ?_
      refine sq_plain rfl rfl rfl (w_addi rfl (ev_tmp rfl) ev_ci (by first | omega | ((try simp only [List.length_map, List.length_take, List.length_cons, List.length_nil, chunks_len, szR] at *); omega) | (have hc2 := hc; simp only [Bool.and_eq_true, Bool.or_eq_true, Bool.or_eq_false_iff, Bool.and_eq_false_iff, Bool.not_eq_true', Bool.not_eq_false', decide_eq_true_eq, decide_eq_false_iff_not, beq_iff_eq, bne_iff_ne, List.length_map, List.length_take] at hc2; omega))) ?_
      refine sq_plain rfl rfl rfl (w_assign rfl (ev_tmp rfl)) ?_
      refine sq_nil ?_
      refine round_end4 i fr acc v (i + 1) (i + 1) (acc ++ [(s.take i).drop fr]) (v25_1) ?_ ?_ (le_eq (by first | rfl | (rw [List.map_append]; rfl)) ⟨rfl, rfl, rfl, rfl, rfl, rfl, trivial⟩)
      · exact spOk_hit hinv hxc
      · omega
    · intro h18
      have k18 := ne_of_beqf h18; try simp only [List.length_map] at k18
      have hxc : x ≠ c := (by intro e; subst e; simp at h18)
      refine awp_skip ?_
      refine awp_region ?_
      refine sq_plain rfl rfl rfl (w_move rfl (ev_tmp rfl)) ?_
      refine sq_plain rfl rfl rfl (w_addi rfl (ev_tmp rfl) ev_ci (by first | omega | ((try simp only [List.length_map, List.length_take, List.length_cons, List.length_nil, chunks_len, szR] at *); omega) | (have hc2 := hc; simp only [Bool.and_eq_true, Bool.or_eq_true, Bool.or_eq_false_iff, Bool.and_eq_false_iff, Bool.not_eq_true', Bool.not_eq_false', decide_eq_true_eq, decide_eq_false_iff_not, beq_iff_eq, bne_iff_ne, List.length_map, List.length_take] at hc2; omega))) ?_
      refine sq_plain rfl rfl rfl (w_assign rfl (ev_tmp rfl)) ?_
      refine sq_nil ?_
      refine round_end4 i fr acc v (i + 1) (fr) (acc) (v) ?_ ?_ (le_eq (by first | rfl | (rw [List.map_append]; rfl)) ⟨rfl, rfl, rfl, rfl, rfl, rfl, trivial⟩)
      · exact spOk_miss hinv hx hxc
      · omega
  · intro h11
    have k11 := of_decide_eq_false h11; try simp only [List.length_map] at k11
    have hend := spOk_end hinv (by omega)
    rw [hend]
    refine awp_exit ?_
    refine awp_seq ?_
    refine awp_region ?_
    refine sq_plain rfl rfl rfl (w_move rfl (ev_tmp rfl)) ?_
    refine sq_plain rfl rfl rfl (w_move rfl (ev_tmp rfl)) ?_
    refine sq_plain rfl rfl rfl (w_move rfl (ev_tmp rfl)) ?_
    refine sq_plain rfl rfl rfl (w_ssl_lo rfl Tryz.underlying9 (ev_tmp rfl) (ev_tmp rfl) (by first | omega | ((try simp only [List.length_map, List.length_take, List.length_cons, List.length_nil, chunks_len, szR] at *); omega) | (have hc2 := hc; simp only [Bool.and_eq_true, Bool.or_eq_true, Bool.or_eq_false_iff, Bool.and_eq_false_iff, Bool.not_eq_true', Bool.not_eq_false', decide_eq_true_eq, decide_eq_false_iff_not, beq_iff_eq, bne_iff_ne, List.length_map, List.length_take] at hc2; omega)) (by first | omega | ((try simp only [List.length_map, List.length_take, List.length_cons, List.length_nil, chunks_len, szR] at *); omega) | (have hc2 := hc; simp only [Bool.and_eq_true, Bool.or_eq_true, Bool.or_eq_false_iff, Bool.and_eq_false_iff, Bool.not_eq_true', Bool.not_eq_false', decide_eq_true_eq, decide_eq_false_iff_not, beq_iff_eq, bne_iff_ne, List.length_map, List.length_take] at hc2; omega))) ?_
    refine sq_plain rfl rfl rfl (w_bslice rfl Tryz.underlying34 Tryz.sizeOf9 Tryz.zeroValue9 rfl rfl rfl rfl (bp_cons (ev_tmp rfl) (as_str _) bp_nil) rfl rfl) ?_
    refine sq_append (by' := 16) 0 rfl rfl rfl rfl Tryz.underlying34 Tryz.type9 rfl rfl rfl rfl rfl rfl (ev_tmp rfl) (ev_tmp rfl) rfl (by first | omega | ((try simp only [List.length_map, List.length_take, List.length_cons, List.length_nil, chunks_len, szR] at *); omega) | (have hc2 := hc; simp only [Bool.and_eq_true, Bool.or_eq_true, Bool.or_eq_false_iff, Bool.and_eq_false_iff, Bool.not_eq_true', Bool.not_eq_false', decide_eq_true_eq, decide_eq_false_iff_not, beq_iff_eq, bne_iff_ne, List.length_map, List.length_take] at hc2; omega)) ?_
    intro v33_2
    refine sq_plain rfl rfl rfl (w_assign rfl (ev_tmp rfl)) ?_
    refine sq_nil ?_
    refine awp_ret ?_
    refine ret_seal 0 4 rfl rfl ?_
    exact retR rfl (rv_tmp' rfl (by first | rfl | (unfold strs; rw [List.map_append]; rfl)))
end Go.Proofs.YtmlmmgeadombbaaGreatDoor

set_option linter.unusedVariables false
set_option linter.unusedSimpArgs false
namespace Go.AV
section
variable {P : Program} {G : Nat → Prop} {n : Nat} {own : List Own} {o : Oper}
end
end Go.AV

set_option linter.unusedVariables false
set_option linter.unusedSimpArgs false
namespace Go.AV
open Go.RowKit (Below)
section
variable {P : Program} {G : Nat → Prop} {n : Nat} {own : List Own} {o : Oper} {E : EnvF}
theorem w_tlen {t e : TypeId} {p : Operand} {v : Value} {sz lo : Nat} {es : List (List AV)} (i : Nat) (ho : o.op = .call { callee := .builtin .len, args := #[p], argTypes := #[t] }) (ht : P.underlying t = some (.slice e)) (hp : Ev E p (AV.is (tailV lo sz v))) (hi : own[i]? = some (.arr v e sz es)) : OpW P G n own o E (AV.int ((es.length - lo : Nat) : Int)) := opW_core fun w0 R0 R a w hcore he => by
  have h1 : a.eval p = _ := ev_use hp (by simp [ho, Op.operands, Call.operands]) he
  obtain ⟨_, _, xs, hown, _⟩ := hcore.owned _ (List.mem_of_getElem? hi)
  obtain ⟨oa, c, rfl, _⟩ := own_form hown
  have hel : P.elem t = e := by simp [Program.elem, ht]
  have h2 := fun (b : Option Addr) => run_len_slice (P := P) w t o.type b (es.length - lo) (c - lo) (by rw [hel]; exact ht)
  exact ⟨.int .i64 (es.length - lo : Nat), by simp only [execOp, ho, resolve, invoke, builtin, List.map_toArray, List.map_cons, List.map_nil, h1, tailV, sliced, h2, Sem.run_bind, Sem.run_pure, Result.andThen_ok, goInt], rfl⟩
theorem w_tidx {t e : TypeId} {p q : Operand} {v : Value} {sz lo : Nat} {es : List (List AV)} {k : Int} (i : Nat) (ho : o.op = .indexAddr t p q) (ht : P.underlying t = some (.slice e)) (hsz : ∀ w, (sizeOf e).run P w = .ok sz w) (hp : Ev E p (AV.is (tailV lo sz v))) (hi : own[i]? = some (.arr v e sz es)) (hq : Ev E q (AV.int k)) (h0 : 0 ≤ k) (hk : lo + k < es.length) :
    OpW P G n own o E (AV.is (elemPtr v ((lo + k.toNat) * sz))) := opW_core fun w0 R0 R a w hcore he => by
  have h1 : a.eval p = _ := ev_use hp (by simp [ho, Op.operands]) he
  have h2 : a.eval q = .int .i64 k := ev_use hq (by simp [ho, Op.operands]) he
  obtain ⟨_, _, xs, hown, _⟩ := hcore.owned _ (List.mem_of_getElem? hi)
  rcases hown.2 with ⟨rfl, hz⟩ | ⟨g, cap, cur, rfl, _, _, hn, _⟩
  · rw [hz] at hk; simp at hk; omega
  · have hel : P.elem t = e := by simp [Program.elem, ht]
    have hne : ¬ cap = lo := by omega
    have hk2 : k < ((es.length - lo : Nat) : Int) := by omega
    have h3 := run_indexAt_slice (P := P) w t ((⟨g, 0, none⟩ : Addr).add (lo * sz)) (es.length - lo) (cap - lo) .i64 k (by rw [hel]; exact ht)
    rw [if_pos ⟨h0, hk2⟩, hel, hsz, Result.andThen_ok] at h3
    have e : (lo + k.toNat) * sz = lo * sz + k.toNat * sz := Nat.add_mul _ _ _
    refine ⟨.pointer (some (Addr.add ((⟨g, 0, none⟩ : Addr).add (lo * sz)) (k.toNat * sz))), by simp only [execOp, ho, h1, h2, tailV, sliced, if_neg hne, Option.map_some, h3, Sem.run_bind, Sem.run_pure, Result.andThen_ok], ?_⟩
    rw [e]
    show Value.pointer _ = Value.pointer (some (Addr.add ⟨g, 0, none⟩ (lo * sz + k.toNat * sz)))
    simp only [addr_add, Nat.zero_add]
theorem lt_tailm {α : Type} {f : α → List AV} {l : List α} {v : Value} {e : TypeId} {sz lo k : Nat} (hm : Own.arr v e sz (l.map f) ∈ own) (hlo : lo = k) (hk : k ≤ l.length) : LendTo own (AV.is (tailV lo sz v)) (AV.list sz ((l.drop k).map f)) := fun G w0 R0 R w u hc hu => by
  subst hlo
  cases (show u = tailV lo sz v from hu)
  obtain ⟨_, _, xs, hown, _⟩ := hc.owned _ hm
  obtain ⟨oa, c, hv, hnc⟩ := own_form hown
  have h1 := lt_arr hm le_refl_e G w0 R0 R w v hc rfl
  obtain ⟨oa', c', e1, k1, k2, k3, k4⟩ := h1
  subst e1
  have h9 := list_slice (R := lend own w R) (lo := lo) (hi := (l.map f).length) (es := l.map f) (oa := oa') rfl k1 k2 k3 k4 (by rw [List.length_map]; exact hk) (Nat.le_refl _)
  rw [List.take_length, ← List.map_drop] at h9
  exact h9
end
end Go.AV

namespace Go.Proofs
open Go.Shelf
set_option linter.unusedVariables false
end Go.Proofs

set_option linter.unusedVariables false
set_option linter.unusedSimpArgs false
set_option maxRecDepth 100000
set_option maxHeartbeats 1000000
namespace Go.Proofs.YtmlmmgeadombbaaGreatDoor
open Go Go.AV Go.M
attribute [local irreducible] OpW OpA OpS AWP FSpec ESpec GSpec OpE RetOk RetOkG RvDen Le Ev GuardIs SrcIs Int.tmod Int.tdiv IntKind.wrap
theorem indexS_spec (l : List Str) (s : Str) : FSpec Tryz.prog 42 [AV.list 1 (l.map fun s => [AV.str s]), AV.str s] (AV.int (idxF l s 0)) := by
  refine spec_of_awp Tryz.func42 rfl Tryz.ntmps42 rfl ?_
  refine awp_len (t := 0) rfl fun hl => ?_
  try simp only [List.length_map] at hl
  refine awp_seq ?_
  refine awp_region ?_
  refine sq_plain rfl rfl rfl (w_assign rfl ev_ci) ?_
  refine sq_nil ?_
  refine awp_seq ?_
  refine awp_seq ?_
  refine awp_region ?_
  refine sq_plain rfl rfl rfl (w_move rfl (ev_tmp rfl)) ?_
  refine sq_plain rfl rfl rfl (w_llen rfl Tryz.underlying34 (ev_tmp rfl)) ?_
  refine sq_plain rfl rfl rfl (w_move rfl ev_ci) ?_
  refine sq_nil ?_
  refine awp_block ?_
  refine awp_loop_i [(0, _), (1, _), (7, _)] _ (fun (i : Nat) => i ≤ l.length ∧ idxF l s 0 = idxF (l.drop i) s i) (fun (i : Nat) => []) (fun (i : Nat) => [(8, AV.int i)]) (fun (i : Nat) => l.length - i) (0) ?_ (le_env ⟨rfl, rfl, rfl, rfl, trivial⟩) ?_
  · exact ⟨Nat.zero_le _, rfl⟩
  intro i hinv
  refine awp_seq ?_
  refine awp_region ?_
  refine sq_plain rfl rfl rfl (w_lss rfl (ev_tmp rfl) (ev_tmp rfl)) ?_
  refine sq_nil ?_
  refine awp_seq ?_
  refine awp_cond (ev_tmp rfl) ?_ ?_
  · intro h9
    have k9 := of_decide_eq_true h9; try simp only [List.length_map] at k9
    have hlt : i < l.length := by omega
    obtain ⟨x, hx⟩ := get_some hlt
    refine awp_skip ?_
    refine awp_seq ?_
    refine awp_block ?_
    refine awp_seq ?_
    refine awp_region ?_
    refine sq_plain rfl rfl rfl (w_move rfl (ev_tmp rfl)) ?_
    refine sq_plain rfl rfl rfl (w_assign rfl (ev_tmp rfl)) ?_
    refine sq_nil ?_
    refine awp_seq ?_
    refine awp_region ?_
    refine sq_plain rfl rfl rfl (w_move rfl (ev_tmp rfl)) ?_
    refine sq_plain rfl rfl rfl (w_move rfl (ev_tmp rfl)) ?_
    refine sq_plain rfl rfl rfl (w_move rfl (ev_tmp rfl)) ?_
    refine sq_plain rfl rfl rfl (w_idx rfl Tryz.underlying34 Tryz.sizeOf9 (ev_tmp rfl) (ev_tmp rfl) (by omega) (by simp only [Int.toNat_natCast, List.getElem?_map, hx, Option.map_some]; try rfl)) ?_
    refine sq_plain rfl rfl rfl (w_loadE1 rfl (ev_tmp rfl) Tryz.isAgg9 rfl) ?_
    refine sq_plain rfl rfl rfl (w_seql rfl (ev_tmp rfl) (ev_tmp rfl)) ?_
    refine sq_nil ?_
    refine awp_cond (ev_tmp rfl) ?_ ?_
    · intro h16
      rw [hinv.2, idxF_here hx (by simpa using h16)]
      refine awp_seq ?_
      refine awp_region ?_
      refine sq_plain rfl rfl rfl (w_move rfl (ev_tmp rfl)) ?_
      refine sq_plain rfl rfl rfl (w_assign rfl (ev_tmp rfl)) ?_
      refine sq_nil ?_
      refine awp_ret ?_
      exact retR rfl (rv_tmp' rfl (by rfl))
    · intro h16
      refine awp_skip ?_
      refine awp_region ?_
      refine sq_plain rfl rfl rfl (w_addi rfl (ev_tmp rfl) ev_ci (by first | omega | ((try simp only [List.length_map, List.length_take, List.length_cons, List.length_nil, chunks_len, szR] at *); omega) | (have hc2 := hc; simp only [Bool.and_eq_true, Bool.or_eq_true, Bool.or_eq_false_iff, Bool.and_eq_false_iff, Bool.not_eq_true', Bool.not_eq_false', decide_eq_true_eq, decide_eq_false_iff_not, beq_iff_eq, bne_iff_ne, List.length_map, List.length_take] at hc2; omega))) ?_
      refine sq_plain rfl rfl rfl (w_move rfl (ev_tmp rfl)) ?_
      refine sq_nil ?_
      refine round_end i (i + 1) ?_ ?_ (le_env ⟨rfl, rfl, rfl, rfl, trivial⟩)
      · exact ⟨by omega, by rw [hinv.2]; exact idxF_next hx (by simpa using h16)⟩
      · omega
  · intro h9
    have k9 := of_decide_eq_false h9; try simp only [List.length_map] at k9
    have hge : l.length ≤ i := by omega
    rw [hinv.2, idxF_end hge]
    refine awp_exit ?_
    refine awp_seq ?_
    refine awp_region ?_
    refine sq_plain rfl rfl rfl (w_assign rfl ev_ci) ?_
    refine sq_nil ?_
    refine awp_ret ?_
    exact retR rfl (rv_tmp' rfl (by rfl))
end Go.Proofs.YtmlmmgeadombbaaGreatDoor
