/- FnExactGoodAtlas: for all arguments the program's GoodAtlas answers what the reference's answers. No condition. -/
import Derived.Test.YthioagnjfdffnaaAtlasW
import Derived.Test.YthioagnjfdffnaaTypesW
import Derived.Test.YthioagnjfdffnaaAvLaw
set_option linter.unusedVariables false
set_option linter.unusedSimpArgs false
set_option maxRecDepth 100000
namespace Go.Proofs.Ythioagnjfdffnaa
open Go Go.AV Go.M
open Go.ChangeShapes Go.WideShapes Go.ChangeAt Go.RowKit
section
attribute [local irreducible] OpW OpA OpS AWP FSpec ESpec GSpec OpE RetOk RetOkG RvDen Le Ev GuardIs SrcIs
theorem fnExactGoodAtlas_spec (a : TAtlas) (ha : a.ok) : FSpec Try.prog 11 [AV.agg a.cs] (AV.bool true) := by
  refine spec_of_awp Try.func11 rfl Try.ntmps11 rfl ?_
  refine awp_seq ?_
  refine awp_region ?_
  refine sq_box rfl rfl rfl rfl (ev_tmp rfl) ?_
  intro b1
  refine sq_plain rfl rfl rfl (w_assign rfl ev_cb) ?_
  refine sq_nil ?_
  refine awp_seq ?_
  refine awp_region ?_
  refine sq_plain rfl rfl rfl (w_assign rfl ev_ci) ?_
  refine sq_nil ?_
  refine awp_seq ?_
  refine awp_region ?_
  refine sq_plain rfl rfl rfl (w_loadA 0 rfl (ev_tmp rfl) rfl Try.isAgg89 Try.sizeOf89 rfl) ?_
  refine sq_plain rfl rfl rfl (w_move rfl (ev_tmp rfl)) ?_
  refine sq_plain rfl rfl rfl (w_call rfl Try.call53 rfl (szAtlas_spec _ _ (by assumption) (by first | omega | ((try simp only [List.length_map, List.length_take, List.length_cons, List.length_nil, chunks_len, szR] at *); omega) | (have hc2 := hc; simp only [Bool.and_eq_true, Bool.or_eq_true, Bool.or_eq_false_iff, Bool.and_eq_false_iff, Bool.not_eq_true', Bool.not_eq_false', decide_eq_true_eq, decide_eq_false_iff_not, beq_iff_eq, bne_iff_ne, List.length_map, List.length_take] at hc2; omega)) (by first | omega | ((try simp only [List.length_map, List.length_take, List.length_cons, List.length_nil, chunks_len, szR] at *); omega) | (have hc2 := hc; simp only [Bool.and_eq_true, Bool.or_eq_true, Bool.or_eq_false_iff, Bool.and_eq_false_iff, Bool.not_eq_true', Bool.not_eq_false', decide_eq_true_eq, decide_eq_false_iff_not, beq_iff_eq, bne_iff_ne, List.length_map, List.length_take] at hc2; omega))) (evl_cons (ev_tmp rfl) (evl_cons (ev_tmp rfl) evl_nil))) ?_
  refine sq_plain rfl rfl rfl (w_assign rfl (ev_tmp rfl)) ?_
  refine sq_nil ?_
  refine awp_seq ?_
  refine awp_seq ?_
  refine awp_region ?_
  refine sq_plain rfl rfl rfl (w_move rfl (ev_tmp rfl)) ?_
  refine sq_plain rfl rfl rfl (w_lss rfl (ev_tmp rfl) ev_ci) ?_
  refine sq_nil ?_
  refine awp_cond (ev_tmp rfl) ?_ ?_
  · intro h11
    have k11 := of_decide_eq_true h11; try simp only [List.length_map] at k11
    refine awp_seq ?_
    refine awp_region ?_
    refine sq_plain rfl rfl rfl (w_assign rfl ev_cb) ?_
    refine sq_nil ?_
    refine awp_ret ?_
    exact retR rfl (rv_tmp' rfl (by first | rfl | (exfalso; simp_all [goodAtlas_eq])))
  · intro h11
    have k11 := of_decide_eq_false h11; try simp only [List.length_map] at k11
    have hsa : a.size ≤ 1048576 := by simp only [szR] at k11; omega
    refine awp_skip ?_
    refine awp_seq ?_
    refine awp_region ?_
    refine sq_plain rfl rfl rfl (w_loadA 0 rfl (ev_tmp rfl) rfl Try.isAgg89 Try.sizeOf89 rfl) ?_
    refine sq_plain rfl rfl rfl (w_call rfl Try.call55 rfl (toAtlas_spec _ (by first | assumption | omega | (simp only [] at *; omega))) (evl_cons (ev_tmp rfl) evl_nil)) ?_
    refine sq_plain rfl rfl rfl (w_call rfl Try.call54 rfl (goodAtlasS_spec _ (by first | assumption | omega)) (evl_cons (ev_tmp rfl) evl_nil)) ?_
    refine sq_plain rfl rfl rfl (w_assign rfl (ev_tmp rfl)) ?_
    refine sq_nil ?_
    refine awp_seq ?_
    refine awp_region ?_
    refine sq_plain rfl rfl rfl (w_loadA 0 rfl (ev_tmp rfl) rfl Try.isAgg89 Try.sizeOf89 rfl) ?_
    refine sq_plain rfl rfl rfl (w_call rfl Try.call55 rfl (toAtlas_spec _ (by first | assumption | omega | (simp only [] at *; omega))) (evl_cons (ev_tmp rfl) evl_nil)) ?_
    refine sq_alloc rfl rfl rfl rfl Try.zeroValue57 rfl ?_
    intro b5
    refine sq_storeB0 0 rfl rfl rfl (ev_tmp rfl) (ev_tmp rfl) (as_agg _) rfl Try.sizeOf57 rfl ?_
    refine sq_nil ?_
    refine awp_seq ?_
    refine awp_region ?_
    refine sq_plain rfl rfl rfl (w_loadA 0 rfl (ev_tmp rfl) rfl Try.isAgg57 Try.sizeOf57 rfl) ?_
    refine sq_plain rfl rfl rfl (w_call rfl Try.call56 rfl (goodAtlas_spec _ (by first | assumption | omega)) (evl_cons (ev_tmp rfl) evl_nil)) ?_
    refine sq_plain rfl rfl rfl (w_assign rfl (ev_tmp rfl)) ?_
    refine sq_nil ?_
    refine awp_seq ?_
    refine awp_seq ?_
    refine awp_region ?_
    refine sq_plain rfl rfl rfl (w_move rfl (ev_tmp rfl)) ?_
    refine sq_plain rfl rfl rfl (w_move rfl (ev_tmp rfl)) ?_
    refine sq_plain rfl rfl rfl (w_bneq rfl Try.underlying4 (ev_tmp rfl) (ev_tmp rfl)) ?_
    refine sq_nil ?_
    refine awp_cond (ev_tmp rfl) ?_ ?_
    · intro h21
      refine awp_seq ?_
      refine awp_region ?_
      refine sq_plain rfl rfl rfl (w_assign rfl ev_cb) ?_
      refine sq_nil ?_
      refine awp_ret ?_
      exact retR rfl (rv_tmp' rfl (by first | rfl | (exfalso; simp_all [goodAtlas_eq])))
    · intro h21
      refine awp_skip ?_
      refine awp_seq ?_
      refine awp_seq ?_
      refine awp_region_any (by kernel_rfl) (by kernel_rfl) rfl ?_
      refine ch_plain rfl rfl (w_loadA 0 rfl (ev_tmp rfl) rfl Try.isAgg57 Try.sizeOf57 rfl) ?_
      refine ch_plain rfl rfl (w_loadA 1 rfl (ev_tmp rfl) rfl Try.isAgg89 Try.sizeOf89 rfl) ?_
      refine ch_plain rfl rfl (w_call rfl Try.call55 rfl (toAtlas_spec _ (by first | assumption | omega | (simp only [] at *; omega))) (evl_cons (ev_tmp rfl) evl_nil)) ?_
      refine ch_plain rfl rfl (w_call rfl Try.call32 rfl (eqAtlas_spec _ _) (evl_cons (ev_tmp rfl) (evl_cons (ev_tmp rfl) evl_nil))) ?_
      refine ch_plain rfl rfl (w_not rfl (ev_tmp rfl)) ?_
      refine ch_nil ?_
      refine awp_cond (ev_tmp rfl) ?_ ?_
      · intro h26
        refine awp_seq ?_
        refine awp_region ?_
        refine sq_plain rfl rfl rfl (w_assign rfl ev_cb) ?_
        refine sq_nil ?_
        refine awp_ret ?_
        exact retR rfl (rv_tmp' rfl (by first | rfl | (exfalso; simp_all [goodAtlas_eq])))
      · intro h26
        refine awp_skip ?_
        refine awp_seq ?_
        refine awp_region ?_
        refine sq_plain rfl rfl rfl (w_assign rfl ev_cb) ?_
        refine sq_nil ?_
        refine awp_ret ?_
        exact retR rfl (rv_tmp' rfl (by first | rfl | (exfalso; simp_all [goodAtlas_eq])))
end
theorem opens_Int : Opens Try.prog 3 Int (fun n => [AV.int n]) (fun _ => True) := opens_map id (opens_int Try.underlying3) (fun _ => rfl) (fun _ _ => trivial)
theorem opens_Str : Opens Try.prog 9 Str (fun s => [AV.str s]) (fun s => s.length ≤ 9223372036854775807) := opens_str Try.underlying9
theorem opens_LStr : Opens Try.prog 50 (List Str) (fun l => [AV.list 1 (l.map fun x => [AV.str x])]) (fun l => (∀ x ∈ l, x.length ≤ 9223372036854775807)) := opens_map id (opens_slice (sz := 1) Try.underlying50 (by kernel_rfl) opens_Str (fun _ => rfl)) (fun _ => rfl) (fun _ h => h)
theorem opens_LInt : Opens Try.prog 51 (List Int) (fun l => [AV.list 1 (l.map fun x => [AV.int x])]) (fun l => True) := opens_map id (opens_slice (sz := 1) Try.underlying51 (by kernel_rfl) opens_Int (fun _ => rfl)) (fun _ => rfl) (fun _ _ => trivial)
theorem opens_TPlaces : Opens Try.prog 53 TPlaces TPlaces.cs (fun c => c.ok) := opens_map (fun p => ⟨p.1, p.2.1, p.2.2.1⟩) (opens_struct Try.underlying53 (by kernel_rfl) (opensF_cons (m := 1) opens_Int rfl (by kernel_rfl) (opensF_cons (m := 1) opens_LStr rfl (by kernel_rfl) (opensF_cons (m := 1) opens_LInt rfl (by kernel_rfl) opensF_nil)))) (fun _ => rfl) (fun _ h => by exact h.2.1)
theorem opens_LTPlaces : Opens Try.prog 87 (List TPlaces) (fun l => [AV.list 3 (l.map TPlaces.cs)]) (fun l => (∀ x ∈ l, x.ok)) := opens_map id (opens_slice (sz := 3) Try.underlying87 (by kernel_rfl) opens_TPlaces (fun _ => rfl)) (fun _ => rfl) (fun _ h => h)
theorem opens_TAtlas : Opens Try.prog 89 TAtlas TAtlas.cs (fun c => c.ok) := opens_map (fun p => ⟨p.1, p.2.1⟩) (opens_struct Try.underlying89 (by kernel_rfl) (opensF_cons (m := 1) opens_LTPlaces rfl (by kernel_rfl) (opensF_cons (m := 1) opens_LInt rfl (by kernel_rfl) opensF_nil))) (fun _ => rfl) (fun _ h => by exact h.1)
set_option maxRecDepth 100000 in
theorem fnExactGoodAtlas_lifted (os : Os) (started : os.Started) (H : Type) (enc : TypeId × Value → H) :
    ReturnsInHanded {} Try.checked os 11 .any (Rows.fnExactGoodAtlasSpec.pre6 enc Try.prog Try.f11 Rows.fnExactGoodAtlasRow.domain false) (Rows.fnExactGoodAtlasSpec.post enc Try.prog Try.f11 false true false false) := by
  refine returnsInHanded_of_change (C := Try.checked) (by kernel_rfl) started (by kernel_rfl) Try.func11
    (ChangeSpec.witness6 (enc := enc) (C := Try.checked) false ⟨#[], #[.agg #[.slice none 0 0, .slice none 0 0]], []⟩ 8 (by kernel_rfl) (by kernel_rfl) (by kernel_rfl) (by kernel_rfl)) ?_
  intro W base args ds gs before hval0 hW hcnd _
  have hval : ∀ (j : Nat) t v, Try.f11.params[j]? = some t → args[j]? = some v → Value.okWide Try.prog W .any base t v := hval0
  have hW2 := hW
  obtain ⟨p, q, hA0, hV, rfl, hfz, hnd⟩ := hW
  have hA : DataW.TrodAll enc Try.prog W 0 (fun _ => true) true Try.f11.params.toList args.toList ds p := hA0
  rw [Try.params11] at hA hval
  obtain ⟨v0, vs0, d0, ds0, p0, q0, hargs, rfl, rfl, h0, r0⟩ := trodAll_cons hA
  obtain ⟨rfl, rfl, rfl⟩ := trodAll_nil r0
  obtain rfl : args = #[v0] := by cases args; simp_all
  obtain ⟨rfl, rfl⟩ := trodVars_none hV
  have lt0 : ∀ x ∈ p0, x.block < W.heap.size := by obtain ⟨m, hm⟩ := h0; exact DataW.trod_lt m _ _ _ hm
  obtain ⟨a0, w0, g0⟩ := arg_agg (opens_TAtlas) Try.underlying89 (hval 0 89 v0 rfl rfl) h0
  have hcall := law_calls (fnExactGoodAtlas_spec a0 w0) (DenV.cons g0 (DenV.nil _))
  clear hA0 hval0
  refine Calls.mono hcall fun e W2 ⟨he, bel⟩ => ?_
  subst he
  exact ⟨_, rfl, _, _, _, [], _, [], hW2, trodAll_mk1 (shut_bool Try.underlying4 _), (trodAll_cons_mk (Below.trod (by kernel_rfl : laidOutB Try.prog = true) (by kernel_rfl) (of_decide_eq_true (by kernel_rfl)) h0 bel lt0) trodAll_mk0), rfl, bel.frame _, fun h => by cases h⟩
/-- The statement. -/
theorem fnExactGoodAtlas_proved : Rows.FnExactGoodAtlasSaid :=
  OpenClaim.holds_of_wide 11 Try.f11 rfl rfl rfl rfl rfl rfl rfl ⟨rfl, rfl, rfl, rfl, rfl⟩ rfl rfl rfl rfl rfl (by kernel_rfl) Try.func11 (by kernel_rfl)
    (of_decide_eq_true (by kernel_rfl)) (by unfold Func.isWrapper; first | (rw [if_pos (by decide +kernel)]; kernel_rfl) | (rw [if_neg (by decide +kernel)]; exact ⟨rfl, rfl⟩))
    (fun os started H enc _ => fnExactGoodAtlas_lifted os started H enc)
end Go.Proofs.Ythioagnjfdffnaa
