/- Walks: locks taken and freed. -/
import Derived.Test.YteliahajeokciaaLock2W
set_option linter.unusedVariables false
set_option linter.unusedSimpArgs false
set_option maxRecDepth 100000
namespace Go.M
open Go.AV
def selL (x y : TLock) : Bool := (y.Key == x.Key) && (y.Txn == x.Txn)
theorem takeL_idx (x : TLock) : ∀ (l : List TLock) (k : Nat), (idxFrom (selL x) l k = -1 ∧ takeL l x = l ++ [x]) ∨ ∃ (n : Nat) (y : TLock), idxFrom (selL x) l k = ((k + n : Nat) : Int) ∧ l[n]? = some y ∧ takeL l x = l.take n ++ ⟨y.Key, y.Txn, y.Write || x.Write⟩ :: l.drop (n + 1)
  | [], k => .inl ⟨rfl, rfl⟩
  | y :: l, k => by
    have hs : selL x y = ((y.Key == x.Key) && (y.Txn == x.Txn)) := rfl
    unfold idxFrom takeL
    cases hf : selL x y with
    | true => rw [← hs, hf]; exact .inr ⟨0, y, by simp, rfl, by simp⟩
    | false =>
      rw [← hs, hf]
      have hk : (k : Int) + 1 = ((k + 1 : Nat) : Int) := by omega
      rw [hk]
      rcases takeL_idx x l (k + 1) with ⟨h1, h2⟩ | ⟨n, z, h1, h2, h3⟩
      · exact .inl ⟨by simpa using h1, by simp [h2]⟩
      · exact .inr ⟨n + 1, z, by simp only [Bool.false_eq_true, if_false, h1]; omega, by simpa using h2, by simp [h3]⟩
theorem map_split {α β : Type} {c : α → β} : ∀ {l : List α} {k : Nat} {y : α}, l[k]? = some y → l.map c = (l.take k).map c ++ c y :: (l.drop (k + 1)).map c
  | [], k, y, h => by simp at h
  | x :: l, 0, y, h => by simp at h; subst h; rfl
  | x :: l, k + 1, y, h => by
    rw [List.map_cons, map_split (c := c) (l := l) (k := k) (y := y) (by simpa using h)]; rfl
theorem map_len {α β : Type} {c : α → β} {l : List α} {k : Nat} {y : α} (h : l[k]? = some y) : ((l.take k).map c).length = k := by
  have := (List.getElem?_eq_some_iff.1 h).1
  rw [List.length_map, List.length_take]; omega
end Go.M
namespace Go.Proofs.Yteliahajeokciaa
open Go Go.AV Go.M
attribute [local irreducible] OpW OpA OpS AWP FSpec ESpec GSpec OpE RetOk RetOkG RvDen Le Ev GuardIs SrcIs
theorem takeLock1_spec (y x : TLock) : FSpec Try.prog 260 [AV.agg y.cs, AV.eptr x.cs] (AV.bool (selL x y)) := by
  refine spec_of_awp Try.func260 rfl Try.ntmps260 rfl ?_
  refine awp_seq ?_
  refine awp_region ?_
  refine sq_box rfl rfl rfl rfl (ev_tmp rfl) ?_
  intro b2
  refine sq_plain rfl rfl rfl (w_assign rfl ev_cb) ?_
  refine sq_nil ?_
  refine awp_seq ?_
  refine awp_region ?_
  refine sq_plain rfl rfl rfl (w_fldBn 0 rfl Try.underlying96 rfl Try.sizeOf9 (ev_tmp rfl) rfl) ?_
  refine sq_plain rfl rfl rfl (w_loadB1 0 rfl (ev_tmp rfl) rfl Try.isAgg9 rfl) ?_
  refine sq_plain rfl rfl rfl (w_fldE rfl Try.underlying96 rfl Try.sizeOf9 (ev_tmp rfl) rfl) ?_
  refine sq_plain rfl rfl rfl (w_loadE1 rfl (ev_tmp rfl) Try.isAgg9 rfl) ?_
  refine sq_plain rfl rfl rfl (w_seql rfl (ev_tmp rfl) (ev_tmp rfl)) ?_
  refine sq_plain rfl rfl rfl (w_move rfl (ev_tmp rfl)) ?_
  refine sq_grd rfl rfl (guard_t rfl rfl rfl) (fun hc => w_fldBn 1 rfl Try.underlying96 rfl Try.sizeOf3 (ev_tmp rfl) rfl) ?_
  refine sq_grd rfl rfl (guard_t rfl rfl rfl) (fun hc => w_loadB1 0 rfl (ev_whn rfl hc) rfl Try.isAgg3 rfl) ?_
  refine sq_grd rfl rfl (guard_t rfl rfl rfl) (fun hc => w_fldE rfl Try.underlying96 rfl Try.sizeOf3 (ev_tmp rfl) rfl) ?_
  refine sq_grd rfl rfl (guard_t rfl rfl rfl) (fun hc => w_loadE1 rfl (ev_whn rfl hc) Try.isAgg3 rfl) ?_
  refine sq_grd rfl rfl (guard_t rfl rfl rfl) (fun hc => w_eql rfl (ev_whn rfl hc) (ev_whn rfl hc)) ?_
  refine sq_plain rfl rfl rfl (w_and rfl (ev_tmp rfl) (evif_w rfl)) ?_
  refine sq_plain rfl rfl rfl (w_assign rfl (ev_tmp rfl)) ?_
  refine sq_nil ?_
  refine awp_ret ?_
  exact retR rfl (rv_tmp' rfl (by first | rfl | (refine congrArg AV.bool ?_; simp_all; done)))
theorem freeLocks1_spec (y : TLock) (t : Int) : FSpec Try.prog 259 [AV.agg y.cs, AV.eptr [AV.int t]] (AV.bool (y.Txn == t)) := by
  refine spec_of_awp Try.func259 rfl Try.ntmps259 rfl ?_
  refine awp_seq ?_
  refine awp_region ?_
  refine sq_box rfl rfl rfl rfl (ev_tmp rfl) ?_
  intro b2
  refine sq_plain rfl rfl rfl (w_assign rfl ev_cb) ?_
  refine sq_nil ?_
  refine awp_seq ?_
  refine awp_region ?_
  refine sq_plain rfl rfl rfl (w_fldBn 1 rfl Try.underlying96 rfl Try.sizeOf3 (ev_tmp rfl) rfl) ?_
  refine sq_plain rfl rfl rfl (w_loadB1 0 rfl (ev_tmp rfl) rfl Try.isAgg3 rfl) ?_
  refine sq_plain rfl rfl rfl (w_loadE1 rfl (ev_tmp rfl) Try.isAgg3 rfl) ?_
  refine sq_plain rfl rfl rfl (w_eql rfl (ev_tmp rfl) (ev_tmp rfl)) ?_
  refine sq_plain rfl rfl rfl (w_assign rfl (ev_tmp rfl)) ?_
  refine sq_nil ?_
  refine awp_ret ?_
  exact retR rfl (rv_tmp' rfl (by first | rfl | (refine congrArg AV.bool ?_; simp_all; done)))
theorem locksOf1_spec (y : TLock) (t : Int) : FSpec Try.prog 208 [AV.agg y.cs, AV.eptr [AV.int t]] (AV.bool (y.Txn != t)) := by
  refine spec_of_awp Try.func208 rfl Try.ntmps208 rfl ?_
  refine awp_seq ?_
  refine awp_region ?_
  refine sq_box rfl rfl rfl rfl (ev_tmp rfl) ?_
  intro b2
  refine sq_plain rfl rfl rfl (w_assign rfl ev_cb) ?_
  refine sq_nil ?_
  refine awp_seq ?_
  refine awp_region ?_
  refine sq_plain rfl rfl rfl (w_fldBn 1 rfl Try.underlying96 rfl Try.sizeOf3 (ev_tmp rfl) rfl) ?_
  refine sq_plain rfl rfl rfl (w_loadB1 0 rfl (ev_tmp rfl) rfl Try.isAgg3 rfl) ?_
  refine sq_plain rfl rfl rfl (w_loadE1 rfl (ev_tmp rfl) Try.isAgg3 rfl) ?_
  refine sq_plain rfl rfl rfl (w_neq rfl (ev_tmp rfl) (ev_tmp rfl)) ?_
  refine sq_plain rfl rfl rfl (w_assign rfl (ev_tmp rfl)) ?_
  refine sq_nil ?_
  refine awp_ret ?_
  exact retR rfl (rv_tmp' rfl (by first | rfl | (refine congrArg AV.bool ?_; simp_all; done)))
theorem takeLock_spec (l : List TLock) (x : TLock) (hs : sizeL TLock.size l ≤ 4194303) : FSpec Try.prog 202 [AV.list 3 (l.map TLock.cs), AV.agg x.cs] (AV.tup [AV.list 3 ((takeP l x (waitsR l x)).1.map TLock.cs), AV.bool (takeP l x (waitsR l x)).2]) := by
  have hl : l.length ≤ 4194303 := Nat.le_trans sizeL_len hs
  have hlen := takeL_len l x
  refine spec_of_awp Try.func202 rfl Try.ntmps202 rfl ?_
  refine awp_seq ?_
  refine awp_region ?_
  refine sq_box rfl rfl rfl rfl (ev_tmp rfl) ?_
  intro b3
  refine sq_plain rfl rfl rfl (w_assign rfl (ev_cnil (sz := 3))) ?_
  refine sq_plain rfl rfl rfl (w_assign rfl ev_cb) ?_
  refine sq_nil ?_
  refine awp_seq ?_
  refine awp_region ?_
  refine sq_plain rfl rfl rfl (w_move rfl (ev_tmp rfl)) ?_
  refine sq_callG [] rfl rfl rfl rfl Try.call207 rfl (cloneLock_spec _ (by first | assumption | omega)) (evl_cons (ev_tmp rfl) evl_nil) rfl ?_
  intro x9 ok9
  refine sq_plain rfl rfl rfl (w_assign rfl (ev_tmp rfl)) ?_
  refine sq_nil ?_
  refine awp_seq ?_
  refine awp_region ?_
  refine sq_plain rfl rfl rfl (w_move rfl (ev_tmp rfl)) ?_
  refine sq_plain rfl rfl rfl (w_clo rfl rfl (evl_cons (ev_tmp rfl) evl_nil)) ?_
  refine sq_plain rfl rfl rfl (w_callB rfl Try.call258 rfl (indexFuncLock_spec _ _ _ (by first | (intros; trivial) | assumption | (intros; first | trivial | (simp_all; done)))) (flat_ik _ _) (evlb_cons (evb_arr 0 (ev_tmp rfl) rfl) (evlb_cons (evb_weaken (evb_clo1 1 (ev_tmp rfl) rfl) (clo_fun1 Try.call260 (fun y (_ : True) => takeLock1_spec y _))) evlb_nil))) ?_
  refine sq_plain rfl rfl rfl (w_assign rfl (ev_tmp rfl)) ?_
  refine sq_nil ?_
  refine awp_seq ?_
  refine awp_seq ?_
  have hidx := takeL_idx x l 0
  rw [show ((0 : Nat) : Int) = 0 from rfl] at hidx
  refine awp_region ?_
  refine sq_plain rfl rfl rfl (w_move rfl (ev_tmp rfl)) ?_
  refine sq_plain rfl rfl rfl (w_geq rfl (ev_tmp rfl) ev_ci) ?_
  refine sq_nil ?_
  refine awp_cond (ev_tmp rfl) ?_ ?_
  · intro h14
    have k14 := of_decide_eq_true h14; try simp only [List.length_map] at k14
    obtain ⟨n, y, hi, hy, he⟩ : ∃ (n : Nat) (y : TLock), idxFrom (selL x) l 0 = (n : Int) ∧ l[n]? = some y ∧ takeL l x = l.take n ++ ⟨y.Key, y.Txn, y.Write || x.Write⟩ :: l.drop (n + 1) := by (rcases hidx with h | ⟨n, y, h1, h2, h3⟩; (omega); (exact ⟨n, y, by rw [h1]; omega, h2, h3⟩))
    rw [hi]
    refine awp_own (congrArg (fun z => Own.arr x9 96 3 z :: _) (map_split hy)) ?_
    have hA := map_len (c := TLock.cs) hy
    have hlt := (List.getElem?_eq_some_iff.1 hy).1
    refine awp_region ?_
    refine sq_plain rfl rfl rfl (w_move rfl (ev_tmp rfl)) ?_
    refine sq_plain rfl rfl rfl (w_move rfl (ev_tmp rfl)) ?_
    refine sq_plain rfl rfl rfl (w_move rfl (ev_tmp rfl)) ?_
    refine sq_plain rfl rfl rfl (w_move rfl (ev_tmp rfl)) ?_
    refine sq_plain rfl rfl rfl (w_aidx 0 rfl Try.underlying93 Try.sizeOf96 (ev_tmp rfl) rfl (ev_tmp rfl) (by omega) (by rw [List.length_append, List.length_cons, List.length_map, List.length_map, List.length_take, List.length_drop]; omega)) ?_
    refine sq_plain rfl rfl rfl (w_fldX 0 rfl Try.underlying96 rfl Try.sizeOf4 (ev_tmp rfl) rfl rfl (app_get hA)) ?_
    refine sq_plain rfl rfl rfl (w_loadXf 0 rfl (ev_tmp rfl) rfl Try.isAgg4 (app_get hA) rfl) ?_
    refine sq_plain rfl rfl rfl (w_move rfl (ev_tmp rfl)) ?_
    refine sq_grd rfl rfl (guard_f rfl rfl rfl) (fun hc => w_fldBn 2 rfl Try.underlying96 rfl Try.sizeOf4 (ev_tmp rfl) rfl) ?_
    refine sq_grd rfl rfl (guard_f rfl rfl rfl) (fun hc => w_loadB1 1 rfl (ev_whn rfl hc) rfl Try.isAgg4 rfl) ?_
    refine sq_plain rfl rfl rfl (w_or rfl (ev_tmp rfl) (evif_w rfl)) ?_
    refine sq_plain rfl rfl rfl (w_aidx 0 rfl Try.underlying93 Try.sizeOf96 (ev_tmp rfl) rfl (ev_tmp rfl) (by omega) (by rw [List.length_append, List.length_cons, List.length_map, List.length_map, List.length_take, List.length_drop]; omega)) ?_
    refine sq_plain rfl rfl rfl (w_fldX 0 rfl Try.underlying96 rfl Try.sizeOf4 (ev_tmp rfl) rfl rfl (app_get hA)) ?_
    refine sq_storeXA 0 rfl rfl rfl (ev_tmp rfl) (ev_tmp rfl) (as_bool _) rfl Try.sizeOf4 hA rfl ?_
    refine sq_nil ?_
    refine awp_seq ?_
    refine awp_seq ?_
    refine awp_region ?_
    refine sq_plain rfl rfl rfl (w_move rfl (ev_tmp rfl)) ?_
    refine sq_plain rfl rfl rfl (w_loadA 1 rfl (ev_tmp rfl) rfl Try.isAgg96 Try.sizeOf96 rfl) ?_
    refine sq_plain rfl rfl rfl (w_call rfl Try.call197 rfl (waitsR_spec _ _ (by first | assumption | omega)) (evl_cons (ev_tmp rfl) (evl_cons (ev_tmp rfl) evl_nil))) ?_
    refine sq_plain rfl rfl rfl (w_llen rfl Try.underlying94 (ev_tmp rfl)) ?_
    refine sq_plain rfl rfl rfl (w_gtr rfl (ev_tmp rfl) ev_ci) ?_
    refine sq_plain rfl rfl rfl (w_move rfl (ev_tmp rfl)) ?_
    refine sq_grd rfl rfl (guard_f rfl rfl rfl) (fun hc => w_move rfl (ev_tmp rfl)) ?_
    refine sq_grd rfl rfl (guard_f rfl rfl rfl) (fun hc => w_alen 0 rfl Try.underlying93 (ev_whn rfl hc) rfl) ?_
    refine sq_grd rfl rfl (guard_f rfl rfl rfl) (fun hc => w_gtr rfl (ev_whn rfl hc) ev_ci) ?_
    refine sq_plain rfl rfl rfl (w_or rfl (ev_tmp rfl) (evif_w rfl)) ?_
    refine sq_nil ?_
    refine awp_cond (ev_tmp rfl) ?_ ?_
    · intro h41
      have hc : (decide (0 < (waitsR l x).length) || decide (60 < (takeL l x).length)) = true := by (rw [he]; simp only [List.length_append, List.length_cons, List.length_map, List.length_nil, Bool.or_eq_true, decide_eq_true_eq, chunks_len] at h41 ⊢; omega)
      have he2 : takeP l x (waitsR l x) = ([], false) := by (unfold takeP; rw [if_pos hc])
      rw [he2]
      refine awp_seq ?_
      refine awp_region ?_
      refine sq_plain rfl rfl rfl (w_assign rfl (ev_cnil (sz := 3))) ?_
      refine sq_plain rfl rfl rfl (w_assign rfl ev_cb) ?_
      refine sq_nil ?_
      refine awp_ret ?_
      exact retN rfl (by decide) (rv_cons (rv_tmp' rfl (by rfl)) (rv_cons (rv_tmp' rfl (by rfl)) rv_nil))
    · intro h41
      have hc : (decide (0 < (waitsR l x).length) || decide (60 < (takeL l x).length)) = false := by (rw [he]; simp only [List.length_append, List.length_cons, List.length_map, List.length_nil, Bool.or_eq_false_iff, decide_eq_false_iff_not, chunks_len] at h41 ⊢; omega)
      have he2 : takeP l x (waitsR l x) = (takeL l x, true) := by (unfold takeP; rw [if_neg (by rw [hc]; decide)])
      rw [he2]
      dsimp only
      rw [he, List.map_append, List.map_cons]
      refine awp_skip ?_
      refine awp_seq ?_
      refine awp_region ?_
      refine sq_plain rfl rfl rfl (w_move rfl (ev_tmp rfl)) ?_
      refine sq_plain rfl rfl rfl (w_assign rfl (ev_tmp rfl)) ?_
      refine sq_plain rfl rfl rfl (w_assign rfl ev_cb) ?_
      refine sq_nil ?_
      refine awp_ret ?_
      refine ret_seal 0 4 rfl rfl ?_
      exact retN rfl (by decide) (rv_cons (rv_tmp' rfl (by rfl)) (rv_cons (rv_tmp' rfl (by rfl)) rv_nil))
  · intro h14
    have k14 := of_decide_eq_false h14; try simp only [List.length_map] at k14
    have he : takeL l x = l ++ [x] := by (rcases hidx with h | ⟨n, y, h1, h2, h3⟩; (exact h.2); (omega))
    refine awp_region ?_
    refine sq_plain rfl rfl rfl (w_move rfl (ev_tmp rfl)) ?_
    refine sq_plain rfl rfl rfl (w_loadA 1 rfl (ev_tmp rfl) rfl Try.isAgg96 Try.sizeOf96 rfl) ?_
    refine sq_plain rfl rfl rfl (w_bslice rfl Try.underlying93 Try.sizeOf96 Try.zeroValue96 rfl rfl rfl rfl (bp_cons (ev_tmp rfl) (as_agg _) bp_nil) rfl rfl) ?_
    refine sq_append (by' := 32) 0 rfl rfl rfl rfl Try.underlying93 Try.type96 rfl rfl rfl rfl rfl rfl (ev_tmp rfl) (ev_tmp rfl) rfl (by rw [List.length_map, chunks_len]; omega) ?_
    intro v31_1
    refine sq_plain rfl rfl rfl (w_assign rfl (ev_tmp rfl)) ?_
    refine sq_nil ?_
    refine awp_seq ?_
    refine awp_seq ?_
    refine awp_region ?_
    refine sq_plain rfl rfl rfl (w_move rfl (ev_tmp rfl)) ?_
    refine sq_plain rfl rfl rfl (w_loadA 1 rfl (ev_tmp rfl) rfl Try.isAgg96 Try.sizeOf96 rfl) ?_
    refine sq_plain rfl rfl rfl (w_call rfl Try.call197 rfl (waitsR_spec _ _ (by first | assumption | omega)) (evl_cons (ev_tmp rfl) (evl_cons (ev_tmp rfl) evl_nil))) ?_
    refine sq_plain rfl rfl rfl (w_llen rfl Try.underlying94 (ev_tmp rfl)) ?_
    refine sq_plain rfl rfl rfl (w_gtr rfl (ev_tmp rfl) ev_ci) ?_
    refine sq_plain rfl rfl rfl (w_move rfl (ev_tmp rfl)) ?_
    refine sq_grd rfl rfl (guard_f rfl rfl rfl) (fun hc => w_move rfl (ev_tmp rfl)) ?_
    refine sq_grd rfl rfl (guard_f rfl rfl rfl) (fun hc => w_alen 0 rfl Try.underlying93 (ev_whn rfl hc) rfl) ?_
    refine sq_grd rfl rfl (guard_f rfl rfl rfl) (fun hc => w_gtr rfl (ev_whn rfl hc) ev_ci) ?_
    refine sq_plain rfl rfl rfl (w_or rfl (ev_tmp rfl) (evif_w rfl)) ?_
    refine sq_nil ?_
    refine awp_cond (ev_tmp rfl) ?_ ?_
    · intro h41
      have hc : (decide (0 < (waitsR l x).length) || decide (60 < (takeL l x).length)) = true := by (rw [he]; simp only [List.length_append, List.length_cons, List.length_map, List.length_nil, Bool.or_eq_true, decide_eq_true_eq, chunks_len] at h41 ⊢; omega)
      have he2 : takeP l x (waitsR l x) = ([], false) := by (unfold takeP; rw [if_pos hc])
      rw [he2]
      refine awp_seq ?_
      refine awp_region ?_
      refine sq_plain rfl rfl rfl (w_assign rfl (ev_cnil (sz := 3))) ?_
      refine sq_plain rfl rfl rfl (w_assign rfl ev_cb) ?_
      refine sq_nil ?_
      refine awp_ret ?_
      exact retN rfl (by decide) (rv_cons (rv_tmp' rfl (by rfl)) (rv_cons (rv_tmp' rfl (by rfl)) rv_nil))
    · intro h41
      have hc : (decide (0 < (waitsR l x).length) || decide (60 < (takeL l x).length)) = false := by (rw [he]; simp only [List.length_append, List.length_cons, List.length_map, List.length_nil, Bool.or_eq_false_iff, decide_eq_false_iff_not, chunks_len] at h41 ⊢; omega)
      have he2 : takeP l x (waitsR l x) = (takeL l x, true) := by (unfold takeP; rw [if_neg (by rw [hc]; decide)])
      rw [he2]
      dsimp only
      rw [he, List.map_append, List.map_cons]
      refine awp_skip ?_
      refine awp_seq ?_
      refine awp_region ?_
      refine sq_plain rfl rfl rfl (w_move rfl (ev_tmp rfl)) ?_
      refine sq_plain rfl rfl rfl (w_assign rfl (ev_tmp rfl)) ?_
      refine sq_plain rfl rfl rfl (w_assign rfl ev_cb) ?_
      refine sq_nil ?_
      refine awp_ret ?_
      refine ret_seal 0 4 rfl rfl ?_
      exact retN rfl (by decide) (rv_cons (rv_tmp' rfl (by rfl)) (rv_cons (rv_tmp' rfl (by rfl)) rv_nil))
end Go.Proofs.Yteliahajeokciaa
