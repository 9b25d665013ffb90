/- Walks: locks asked for, taken, freed. -/
import Derived.Test.YteliahajeokciaaLockW
set_option linter.unusedVariables false
set_option linter.unusedSimpArgs false
set_option maxRecDepth 100000
namespace Go.Proofs.Yteliahajeokciaa
open Go Go.AV Go.M
attribute [local irreducible] OpW OpA OpS AWP FSpec ESpec GSpec OpE RetOk RetOkG RvDen Le Ev GuardIs SrcIs
theorem putI_scan {n : Int} : ∀ {l : List Int} {i : Nat}, (∀ j x, j < i → l[j]? = some x → x < n) → i ≤ l.length → (∀ x, l[i]? = some x → ¬ x < n) →
    (∀ x, l[i]? = some x → x = n → putI l n = l) ∧ ((∀ x, l[i]? = some x → x ≠ n) → putI l n = l.take i ++ n :: l.drop i)
  | [], i, _, hi, _ => by simp at hi; subst hi; exact ⟨fun x hx => by simp at hx, fun _ => rfl⟩
  | y :: l, 0, _, _, h2 => by
    have h := h2 y rfl
    unfold putI
    rw [if_neg h]
    refine ⟨fun x hx hn => ?_, fun hn => ?_⟩
    · simp at hx; subst hx; rw [if_pos hn]
    · rw [if_neg (hn y rfl)]; rfl
  | y :: l, i + 1, h1, hi, h2 => by
    have hy := h1 0 y (by omega) rfl
    obtain ⟨k1, k2⟩ := putI_scan (n := n) (l := l) (i := i) (fun j x hj hx => h1 (j + 1) x (by omega) (by simpa using hx)) (by simpa using hi) (fun x hx => h2 x (by simpa using hx))
    unfold putI
    rw [if_pos hy]
    refine ⟨fun x hx hn => by rw [k1 x (by simpa using hx) hn], fun hn => by rw [k2 fun x hx => hn x (by simpa using hx)]; rfl⟩
theorem putI_len (l : List Int) (n : Int) : (putI l n).length ≤ l.length + 1 := by
  induction l with
  | nil => simp [putI]
  | cons y l ih =>
    unfold putI
    split
    · rw [List.length_cons, List.length_cons]; omega
    · split <;> simp
theorem putI_spec (l : List Int) (n : Int) (hl : l.length ≤ 4194303) : FSpec Try.prog 261 [ints l, AV.int n] (ints (putI l n)) := by
  refine spec_of_awp Try.func261 rfl Try.ntmps261 rfl ?_
  refine awp_seq ?_
  refine awp_region ?_
  refine sq_plain rfl rfl rfl (w_assign rfl (ev_cnil (sz := 1))) ?_
  refine sq_nil ?_
  refine awp_seq ?_
  refine awp_region ?_
  refine sq_plain rfl rfl rfl (w_assign rfl ev_ci) ?_
  refine sq_nil ?_
  refine awp_seq ?_
  refine awp_block ?_
  refine awp_loop_i [(0, _), (1, _), (4, _)] _ (fun (i : Nat) => i ≤ l.length ∧ ∀ j x, j < i → l[j]? = some x → x < n) (fun (i : Nat) => []) (fun (i : Nat) => [(5, AV.int i)]) (fun (i : Nat) => l.length - i) (0) ?_ (le_env ⟨rfl, rfl, rfl, rfl, trivial⟩) ?_
  · exact ⟨Nat.zero_le _, fun j x h => by omega⟩
  intro i hinv
  obtain ⟨x, hx⟩ := get_any l i
  have hx0 : i < l.length → l[i]? = some x := hx
  refine awp_seq ?_
  refine awp_seq ?_
  refine awp_region ?_
  refine sq_plain rfl rfl rfl (w_move rfl (ev_tmp rfl)) ?_
  refine sq_plain rfl rfl rfl (w_move rfl (ev_tmp rfl)) ?_
  refine sq_plain rfl rfl rfl (w_llen rfl Try.underlying94 (ev_tmp rfl)) ?_
  refine sq_plain rfl rfl rfl (w_lss rfl (ev_tmp rfl) (ev_tmp rfl)) ?_
  refine sq_plain rfl rfl rfl (w_move rfl (ev_tmp rfl)) ?_
  refine sq_grd rfl rfl (guard_t rfl rfl rfl) (fun hc => w_move rfl (ev_tmp rfl)) ?_
  refine sq_grd rfl rfl (guard_t rfl rfl rfl) (fun hc => w_move rfl (ev_tmp rfl)) ?_
  refine sq_grd rfl rfl (guard_t rfl rfl rfl) (fun hc => w_idxm rfl Try.underlying94 Try.sizeOf3 (ev_whn rfl hc) (ev_whn rfl hc) (hx (by first | omega | ((try simp only [List.length_map, List.length_take, List.length_cons, List.length_nil, chunks_len, szR] at *); omega) | (have hc2 := hc; simp only [Bool.and_eq_true, Bool.or_eq_true, Bool.or_eq_false_iff, Bool.and_eq_false_iff, Bool.not_eq_true', Bool.not_eq_false', decide_eq_true_eq, decide_eq_false_iff_not, beq_iff_eq, bne_iff_ne, List.length_map, List.length_take] at hc2; omega))) (by first | omega | ((try simp only [List.length_map, List.length_take, List.length_cons, List.length_nil, chunks_len, szR] at *); omega) | (have hc2 := hc; simp only [Bool.and_eq_true, Bool.or_eq_true, Bool.or_eq_false_iff, Bool.and_eq_false_iff, Bool.not_eq_true', Bool.not_eq_false', decide_eq_true_eq, decide_eq_false_iff_not, beq_iff_eq, bne_iff_ne, List.length_map, List.length_take] at hc2; omega))) ?_
  refine sq_grd rfl rfl (guard_t rfl rfl rfl) (fun hc => w_loadE1 rfl (ev_whn rfl hc) Try.isAgg3 rfl) ?_
  refine sq_grd rfl rfl (guard_t rfl rfl rfl) (fun hc => w_move rfl (ev_tmp rfl)) ?_
  refine sq_grd rfl rfl (guard_t rfl rfl rfl) (fun hc => w_lss rfl (ev_whn rfl hc) (ev_whn rfl hc)) ?_
  refine sq_plain rfl rfl rfl (w_and rfl (ev_tmp rfl) (evif_w rfl)) ?_
  refine sq_nil ?_
  refine awp_cond (ev_tmp rfl) ?_ ?_
  · intro h18
    have hb : i < l.length ∧ x < n := by simpa using h18
    refine awp_skip ?_
    refine awp_block ?_
    refine awp_region ?_
    refine sq_plain rfl rfl rfl (w_move rfl (ev_tmp rfl)) ?_
    refine sq_plain rfl rfl rfl (w_addi rfl (ev_tmp rfl) ev_ci (by first | omega | ((try simp only [List.length_map, List.length_take, List.length_cons, List.length_nil, chunks_len, szR] at *); omega) | (have hc2 := hc; simp only [Bool.and_eq_true, Bool.or_eq_true, Bool.or_eq_false_iff, Bool.and_eq_false_iff, Bool.not_eq_true', Bool.not_eq_false', decide_eq_true_eq, decide_eq_false_iff_not, beq_iff_eq, bne_iff_ne, List.length_map, List.length_take] at hc2; omega))) ?_
    refine sq_plain rfl rfl rfl (w_assign rfl (ev_tmp rfl)) ?_
    refine sq_nil ?_
    refine blockN ?_
    refine round_end i (i + 1) ?_ ?_ (le_env ⟨rfl, rfl, rfl, rfl, trivial⟩)
    · exact ⟨by omega, fun j y hj hy => (Nat.lt_or_ge j i).elim (fun h => hinv.2 j y h hy) (fun h => by (obtain rfl : j = i := by omega); rw [hx0 hb.1] at hy; injection hy with hy; omega)⟩
    · omega
  · intro h18
    have hb : i < l.length → ¬ x < n := fun h => by simpa [h] using h18
    obtain ⟨hs1, hs2⟩ := putI_scan hinv.2 hinv.1 (fun z hz => by (have hzl := (List.getElem?_eq_some_iff.1 hz).1; rw [hx0 hzl] at hz; injection hz with hz; subst hz; exact hb hzl))
    refine awp_exit ?_
    refine awp_seq ?_
    refine awp_seq ?_
    refine awp_region ?_
    refine sq_plain rfl rfl rfl (w_move rfl (ev_tmp rfl)) ?_
    refine sq_plain rfl rfl rfl (w_move rfl (ev_tmp rfl)) ?_
    refine sq_plain rfl rfl rfl (w_llen rfl Try.underlying94 (ev_tmp rfl)) ?_
    refine sq_plain rfl rfl rfl (w_lss rfl (ev_tmp rfl) (ev_tmp rfl)) ?_
    refine sq_plain rfl rfl rfl (w_move rfl (ev_tmp rfl)) ?_
    refine sq_grd rfl rfl (guard_t rfl rfl rfl) (fun hc => w_move rfl (ev_tmp rfl)) ?_
    refine sq_grd rfl rfl (guard_t rfl rfl rfl) (fun hc => w_move rfl (ev_tmp rfl)) ?_
    refine sq_grd rfl rfl (guard_t rfl rfl rfl) (fun hc => w_idxm rfl Try.underlying94 Try.sizeOf3 (ev_whn rfl hc) (ev_whn rfl hc) (hx (by first | omega | ((try simp only [List.length_map, List.length_take, List.length_cons, List.length_nil, chunks_len, szR] at *); omega) | (have hc2 := hc; simp only [Bool.and_eq_true, Bool.or_eq_true, Bool.or_eq_false_iff, Bool.and_eq_false_iff, Bool.not_eq_true', Bool.not_eq_false', decide_eq_true_eq, decide_eq_false_iff_not, beq_iff_eq, bne_iff_ne, List.length_map, List.length_take] at hc2; omega))) (by first | omega | ((try simp only [List.length_map, List.length_take, List.length_cons, List.length_nil, chunks_len, szR] at *); omega) | (have hc2 := hc; simp only [Bool.and_eq_true, Bool.or_eq_true, Bool.or_eq_false_iff, Bool.and_eq_false_iff, Bool.not_eq_true', Bool.not_eq_false', decide_eq_true_eq, decide_eq_false_iff_not, beq_iff_eq, bne_iff_ne, List.length_map, List.length_take] at hc2; omega))) ?_
    refine sq_grd rfl rfl (guard_t rfl rfl rfl) (fun hc => w_loadE1 rfl (ev_whn rfl hc) Try.isAgg3 rfl) ?_
    refine sq_grd rfl rfl (guard_t rfl rfl rfl) (fun hc => w_move rfl (ev_tmp rfl)) ?_
    refine sq_grd rfl rfl (guard_t rfl rfl rfl) (fun hc => w_eql rfl (ev_whn rfl hc) (ev_whn rfl hc)) ?_
    refine sq_plain rfl rfl rfl (w_and rfl (ev_tmp rfl) (evif_w rfl)) ?_
    refine sq_nil ?_
    refine awp_cond (ev_tmp rfl) ?_ ?_
    · intro h32
      have hc : i < l.length ∧ x = n := by simpa using h32
      have he := hs1 x (hx0 hc.1) hc.2
      rw [he]
      refine awp_seq ?_
      refine awp_region ?_
      refine sq_plain rfl rfl rfl (w_move rfl (ev_tmp rfl)) ?_
      refine sq_plain rfl rfl rfl (w_assign rfl (ev_tmp rfl)) ?_
      refine sq_nil ?_
      refine awp_ret ?_
      exact retR rfl (rv_tmp' rfl (by first | rfl | exact congrArg (fun z => AV.list 1 z) (by rw [List.nil_append, List.map_append, List.map_cons, List.append_assoc]; rfl)))
    · intro h32
      have hc : i < l.length → x ≠ n := fun h => by simpa [h] using h32
      have he := hs2 (fun z hz => by (have hzl := (List.getElem?_eq_some_iff.1 hz).1; rw [hx0 hzl] at hz; injection hz with hz; subst hz; exact hc hzl))
      rw [he]
      refine awp_skip ?_
      refine awp_seq ?_
      refine awp_region ?_
      refine sq_emptyarr rfl rfl rfl rfl Try.underlying94 Try.sizeOf3 ?_
      intro v34
      refine sq_plain rfl rfl rfl (w_move rfl (ev_tmp rfl)) ?_
      refine sq_plain rfl rfl rfl (w_move rfl (ev_tmp rfl)) ?_
      refine sq_plain rfl rfl rfl (w_lsl_him rfl Try.underlying94 Try.sizeOf3 (ev_tmp rfl) (ev_tmp rfl) (by first | omega | ((try simp only [List.length_map, List.length_take, List.length_cons, List.length_nil, chunks_len, szR] at *); omega) | (have hc2 := hc; simp only [Bool.and_eq_true, Bool.or_eq_true, Bool.or_eq_false_iff, Bool.and_eq_false_iff, Bool.not_eq_true', Bool.not_eq_false', decide_eq_true_eq, decide_eq_false_iff_not, beq_iff_eq, bne_iff_ne, List.length_map, List.length_take] at hc2; omega)) (by first | omega | ((try simp only [List.length_map, List.length_take, List.length_cons, List.length_nil, chunks_len, szR] at *); omega) | (have hc2 := hc; simp only [Bool.and_eq_true, Bool.or_eq_true, Bool.or_eq_false_iff, Bool.and_eq_false_iff, Bool.not_eq_true', Bool.not_eq_false', decide_eq_true_eq, decide_eq_false_iff_not, beq_iff_eq, bne_iff_ne, List.length_map, List.length_take] at hc2; omega))) ?_
      refine sq_append (by' := 8) 0 rfl rfl rfl rfl Try.underlying94 Try.type3 rfl rfl rfl rfl rfl rfl (ev_tmp rfl) (ev_tmp rfl) rfl (by simp only [List.length_map, List.length_take, List.length_nil]; omega) ?_
      intro v38_1
      refine sq_plain rfl rfl rfl (w_assign rfl (ev_tmp rfl)) ?_
      refine sq_nil ?_
      refine awp_seq ?_
      refine awp_region ?_
      refine sq_plain rfl rfl rfl (w_move rfl (ev_tmp rfl)) ?_
      refine sq_plain rfl rfl rfl (w_move rfl (ev_tmp rfl)) ?_
      refine sq_plain rfl rfl rfl (w_bslice rfl Try.underlying94 Try.sizeOf3 Try.zeroValue3 rfl rfl rfl rfl (bp_cons (ev_tmp rfl) (as_ik _ _) bp_nil) rfl rfl) ?_
      refine sq_append (by' := 8) 0 rfl rfl rfl rfl Try.underlying94 Try.type3 rfl rfl rfl rfl rfl rfl (ev_tmp rfl) (ev_tmp rfl) rfl (by simp only [chunks_len, List.length_append, List.length_nil, List.length_map, List.length_take, List.length_cons, List.length_drop]; omega) ?_
      intro v42_2
      refine sq_plain rfl rfl rfl (w_assign rfl (ev_tmp rfl)) ?_
      refine sq_nil ?_
      refine awp_seq ?_
      refine awp_region ?_
      refine sq_plain rfl rfl rfl (w_move rfl (ev_tmp rfl)) ?_
      refine sq_plain rfl rfl rfl (w_move rfl (ev_tmp rfl)) ?_
      refine sq_plain rfl rfl rfl (w_move rfl (ev_tmp rfl)) ?_
      refine sq_plain rfl rfl rfl (w_lsl_lom rfl Try.underlying94 Try.sizeOf3 (ev_tmp rfl) (ev_tmp rfl) (by first | omega | ((try simp only [List.length_map, List.length_take, List.length_cons, List.length_nil, chunks_len, szR] at *); omega) | (have hc2 := hc; simp only [Bool.and_eq_true, Bool.or_eq_true, Bool.or_eq_false_iff, Bool.and_eq_false_iff, Bool.not_eq_true', Bool.not_eq_false', decide_eq_true_eq, decide_eq_false_iff_not, beq_iff_eq, bne_iff_ne, List.length_map, List.length_take] at hc2; omega)) (by first | omega | ((try simp only [List.length_map, List.length_take, List.length_cons, List.length_nil, chunks_len, szR] at *); omega) | (have hc2 := hc; simp only [Bool.and_eq_true, Bool.or_eq_true, Bool.or_eq_false_iff, Bool.and_eq_false_iff, Bool.not_eq_true', Bool.not_eq_false', decide_eq_true_eq, decide_eq_false_iff_not, beq_iff_eq, bne_iff_ne, List.length_map, List.length_take] at hc2; omega))) ?_
      refine sq_append (by' := 8) 0 rfl rfl rfl rfl Try.underlying94 Try.type3 rfl rfl rfl rfl rfl rfl (ev_tmp rfl) (ev_tmp rfl) rfl (by simp only [chunks_len, List.length_append, List.length_nil, List.length_map, List.length_take, List.length_cons, List.length_drop]; omega) ?_
      intro v47_3
      refine sq_plain rfl rfl rfl (w_assign rfl (ev_tmp rfl)) ?_
      refine sq_nil ?_
      refine awp_ret ?_
      refine ret_seal 0 4 rfl rfl ?_
      exact retR rfl (rv_tmp' rfl (by first | rfl | exact congrArg (fun z => AV.list 1 z) (by rw [List.nil_append, List.map_append, List.map_cons, List.append_assoc]; rfl)))
theorem waitsS_step {l : List TLock} {x y : TLock} {i : Nat} (hy : l[i]? = some y) : waitsS (l.take (i + 1)) x = if clash x y = true then putI (waitsS (l.take i) x) y.Txn else waitsS (l.take i) x := by
  unfold waitsS
  rw [List.take_add_one, hy, List.filter_append, List.foldl_append]
  cases h : clash x y <;> simp [h]
theorem foldPut_len (l : List TLock) (a : List Int) : (l.foldl (fun a y => putI a y.Txn) a).length ≤ a.length + l.length := by
  induction l generalizing a with
  | nil => simp
  | cons y l ih => rw [List.foldl_cons]; have := ih (putI a y.Txn); have := putI_len a y.Txn; rw [List.length_cons]; omega
theorem waitsS_len (l : List TLock) (x : TLock) : (waitsS l x).length ≤ l.length := by
  unfold waitsS
  have h1 := foldPut_len (l.filter (clash x)) []
  have h2 := List.length_filter_le (clash x) l
  rw [List.length_nil] at h1; omega
theorem waitsS_spec (l : List TLock) (x : TLock) (hl : l.length ≤ 4194303) : FSpec Try.prog 203 [AV.list 3 (l.map TLock.cs), AV.agg x.cs] (ints (waitsS l x)) := by
  refine spec_of_awp Try.func203 rfl Try.ntmps203 rfl ?_
  refine awp_seq ?_
  refine awp_region ?_
  refine sq_box rfl rfl rfl rfl (ev_tmp rfl) ?_
  intro b3
  refine sq_plain rfl rfl rfl (w_assign rfl (ev_cnil (sz := 1))) ?_
  refine sq_nil ?_
  refine awp_seq ?_
  refine awp_region ?_
  refine sq_plain rfl rfl rfl (w_assign rfl (ev_cnil (sz := 1))) ?_
  refine sq_nil ?_
  refine awp_seq ?_
  refine awp_seq ?_
  refine awp_region ?_
  refine sq_plain rfl rfl rfl (w_move rfl (ev_tmp rfl)) ?_
  refine sq_plain rfl rfl rfl (w_llen rfl Try.underlying93 (ev_tmp rfl)) ?_
  refine sq_plain rfl rfl rfl (w_move rfl ev_ci) ?_
  refine sq_nil ?_
  refine awp_block ?_
  refine awp_loop_i [(3, _), (4, _), (8, _), (9, _)] _ (fun (i : Nat) => i ≤ l.length) (fun (i : Nat) => []) (fun (i : Nat) => [(5, ints (waitsS (l.take i) x)), (10, AV.int i)]) (fun (i : Nat) => l.length - i) (0) ?_ (le_env ⟨rfl, rfl, rfl, rfl, rfl, rfl, trivial⟩) ?_
  · exact Nat.zero_le _
  intro i hinv
  refine awp_seq ?_
  refine awp_region ?_
  refine sq_plain rfl rfl rfl (w_lss rfl (ev_tmp rfl) (ev_tmp rfl)) ?_
  refine sq_nil ?_
  refine awp_seq ?_
  refine awp_cond (ev_tmp rfl) ?_ ?_
  · intro h11
    have k11 := of_decide_eq_true h11; try simp only [List.length_map] at k11
    have hlt : i < l.length := by omega
    obtain ⟨y, hy⟩ := get_some hlt
    have hwt := waitsS_step (x := x) hy
    have hwl := waitsS_len (l.take i) x
    rw [List.length_take] at hwl
    refine awp_skip ?_
    refine awp_seq ?_
    refine awp_block ?_
    refine awp_seq ?_
    refine awp_region ?_
    refine sq_plain rfl rfl rfl (w_idxm rfl Try.underlying93 Try.sizeOf96 (ev_tmp rfl) (ev_tmp rfl) hy (by first | omega | ((try simp only [List.length_map, List.length_take, List.length_cons, List.length_nil, chunks_len, szR] at *); omega) | (have hc2 := hc; simp only [Bool.and_eq_true, Bool.or_eq_true, Bool.or_eq_false_iff, Bool.and_eq_false_iff, Bool.not_eq_true', Bool.not_eq_false', decide_eq_true_eq, decide_eq_false_iff_not, beq_iff_eq, bne_iff_ne, List.length_map, List.length_take] at hc2; omega))) ?_
    refine sq_plain rfl rfl rfl (w_loadE rfl (ev_tmp rfl) Try.isAgg96 Try.sizeOf96) ?_
    refine sq_alloc rfl rfl rfl rfl Try.zeroValue96 rfl ?_
    intro b7
    refine sq_storeB0 0 rfl rfl rfl (ev_tmp rfl) (ev_tmp rfl) (as_agg _) rfl Try.sizeOf96 rfl ?_
    refine sq_nil ?_
    refine awp_seq ?_
    refine awp_region ?_
    refine sq_plain rfl rfl rfl (w_loadA 1 rfl (ev_tmp rfl) rfl Try.isAgg96 Try.sizeOf96 rfl) ?_
    refine sq_plain rfl rfl rfl (w_loadA 0 rfl (ev_tmp rfl) rfl Try.isAgg96 Try.sizeOf96 rfl) ?_
    refine sq_plain rfl rfl rfl (w_call rfl Try.call255 rfl (l12Clash_spec _ _) (evl_cons (ev_tmp rfl) (evl_cons (ev_tmp rfl) evl_nil))) ?_
    refine sq_nil ?_
    refine awp_cond (ev_tmp rfl) ?_ ?_
    · intro h16
      have hout : putI (waitsS (l.take i) x) y.Txn = waitsS (l.take (i + 1)) x := by rw [hwt, if_pos h16]
      refine awp_region ?_
      refine sq_plain rfl rfl rfl (w_move rfl (ev_tmp rfl)) ?_
      refine sq_plain rfl rfl rfl (w_fldBn 1 rfl Try.underlying96 rfl Try.sizeOf3 (ev_tmp rfl) rfl) ?_
      refine sq_plain rfl rfl rfl (w_loadB1 0 rfl (ev_tmp rfl) rfl Try.isAgg3 rfl) ?_
      refine sq_plain rfl rfl rfl (w_call rfl Try.call261 rfl (putI_spec _ _ (by first | assumption | omega)) (evl_cons (ev_tmp rfl) (evl_cons (ev_tmp rfl) evl_nil))) ?_
      refine sq_plain rfl rfl rfl (w_assign rfl (ev_tmp rfl)) ?_
      refine sq_nil ?_
      refine awp_region ?_
      refine sq_plain rfl rfl rfl (w_addi rfl (ev_tmp rfl) ev_ci (by first | omega | ((try simp only [List.length_map, List.length_take, List.length_cons, List.length_nil, chunks_len, szR] at *); omega) | (have hc2 := hc; simp only [Bool.and_eq_true, Bool.or_eq_true, Bool.or_eq_false_iff, Bool.and_eq_false_iff, Bool.not_eq_true', Bool.not_eq_false', decide_eq_true_eq, decide_eq_false_iff_not, beq_iff_eq, bne_iff_ne, List.length_map, List.length_take] at hc2; omega))) ?_
      refine sq_plain rfl rfl rfl (w_move rfl (ev_tmp rfl)) ?_
      refine sq_nil ?_
      refine round_end i (i + 1) ?_ ?_ (le_drop 1 ⟨congrArg (fun z => some (ints z)) hout, rfl, rfl, rfl, rfl, rfl, trivial⟩)
      · omega
      · omega
    · intro h16
      have hout : waitsS (l.take i) x = waitsS (l.take (i + 1)) x := by rw [hwt, if_neg (by rw [h16]; decide)]
      refine awp_skip ?_
      refine awp_region ?_
      refine sq_plain rfl rfl rfl (w_addi rfl (ev_tmp rfl) ev_ci (by first | omega | ((try simp only [List.length_map, List.length_take, List.length_cons, List.length_nil, chunks_len, szR] at *); omega) | (have hc2 := hc; simp only [Bool.and_eq_true, Bool.or_eq_true, Bool.or_eq_false_iff, Bool.and_eq_false_iff, Bool.not_eq_true', Bool.not_eq_false', decide_eq_true_eq, decide_eq_false_iff_not, beq_iff_eq, bne_iff_ne, List.length_map, List.length_take] at hc2; omega))) ?_
      refine sq_plain rfl rfl rfl (w_move rfl (ev_tmp rfl)) ?_
      refine sq_nil ?_
      refine round_end i (i + 1) ?_ ?_ (le_drop 1 ⟨congrArg (fun z => some (ints z)) hout, rfl, rfl, rfl, rfl, rfl, trivial⟩)
      · omega
      · omega
  · intro h11
    have k11 := of_decide_eq_false h11; try simp only [List.length_map] at k11
    have hge : l.length ≤ i := by omega
    rw [List.take_of_length_le hge]
    refine awp_exit ?_
    refine awp_seq ?_
    refine awp_region ?_
    refine sq_plain rfl rfl rfl (w_move rfl (ev_tmp rfl)) ?_
    refine sq_plain rfl rfl rfl (w_assign rfl (ev_tmp rfl)) ?_
    refine sq_nil ?_
    refine awp_ret ?_
    exact retR rfl (rv_tmp' rfl (by rfl))
theorem l1Has_spec (l : List Int) (n : Int) : FSpec Try.prog 256 [ints l, AV.int n] (AV.bool (l.any fun y => n == y)) := by
  refine spec_of_awp Try.func256 rfl Try.ntmps256 rfl ?_
  refine awp_len (t := 0) rfl fun hl => ?_
  try simp only [List.length_map] at hl
  refine awp_seq ?_
  refine awp_region ?_
  refine sq_plain rfl rfl rfl (w_assign rfl ev_cb) ?_
  refine sq_nil ?_
  refine awp_seq ?_
  refine awp_seq ?_
  refine awp_region ?_
  refine sq_plain rfl rfl rfl (w_move rfl (ev_tmp rfl)) ?_
  refine sq_plain rfl rfl rfl (w_llen rfl Try.underlying94 (ev_tmp rfl)) ?_
  refine sq_plain rfl rfl rfl (w_move rfl ev_ci) ?_
  refine sq_nil ?_
  refine awp_block ?_
  refine awp_loop_i [(1, _), (7, _), (8, _)] _ (fun (i : Nat) => i ≤ l.length ∧ (l.any fun y => n == y) = ((l.drop i).any fun y => n == y)) (fun (i : Nat) => []) (fun (i : Nat) => [(9, AV.int i)]) (fun (i : Nat) => l.length - i) (0) ?_ (le_env ⟨rfl, rfl, rfl, rfl, trivial⟩) ?_
  · exact ⟨Nat.zero_le _, rfl⟩
  intro i hinv
  refine awp_seq ?_
  refine awp_region ?_
  refine sq_plain rfl rfl rfl (w_lss rfl (ev_tmp rfl) (ev_tmp rfl)) ?_
  refine sq_nil ?_
  refine awp_seq ?_
  refine awp_cond (ev_tmp rfl) ?_ ?_
  · intro h10
    have k10 := of_decide_eq_true h10; try simp only [List.length_map] at k10
    have hlt : i < l.length := by omega
    obtain ⟨x, hx⟩ := get_some hlt
    refine awp_skip ?_
    refine awp_seq ?_
    refine awp_block ?_
    refine awp_seq ?_
    refine awp_region ?_
    refine sq_plain rfl rfl rfl (w_idxm rfl Try.underlying94 Try.sizeOf3 (ev_tmp rfl) (ev_tmp rfl) hx (by first | omega | ((try simp only [List.length_map, List.length_take, List.length_cons, List.length_nil, chunks_len, szR] at *); omega) | (have hc2 := hc; simp only [Bool.and_eq_true, Bool.or_eq_true, Bool.or_eq_false_iff, Bool.and_eq_false_iff, Bool.not_eq_true', Bool.not_eq_false', decide_eq_true_eq, decide_eq_false_iff_not, beq_iff_eq, bne_iff_ne, List.length_map, List.length_take] at hc2; omega))) ?_
    refine sq_plain rfl rfl rfl (w_loadE1 rfl (ev_tmp rfl) Try.isAgg3 rfl) ?_
    refine sq_plain rfl rfl rfl (w_assign rfl (ev_tmp rfl)) ?_
    refine sq_nil ?_
    refine awp_seq ?_
    refine awp_region ?_
    refine sq_plain rfl rfl rfl (w_move rfl (ev_tmp rfl)) ?_
    refine sq_plain rfl rfl rfl (w_move rfl (ev_tmp rfl)) ?_
    refine sq_plain rfl rfl rfl (w_eql rfl (ev_tmp rfl) (ev_tmp rfl)) ?_
    refine sq_nil ?_
    refine awp_cond (ev_tmp rfl) ?_ ?_
    · intro h15
      have k15 := eq_of_beqt h15; try simp only [List.length_map] at k15
      refine awp_seq ?_
      refine awp_region ?_
      refine sq_plain rfl rfl rfl (w_assign rfl ev_cb) ?_
      refine sq_nil ?_
      refine awp_ret ?_
      exact retR rfl (rv_tmp' rfl (by first | exact congrArg AV.bool (by rw [hinv.2, drop_some hx, List.any_cons, k15]; simp) | exact congrArg AV.bool (by rw [hinv.2, List.drop_eq_nil_of_le hge]; rfl)))
    · intro h15
      have k15 := ne_of_beqf h15; try simp only [List.length_map] at k15
      refine awp_skip ?_
      refine awp_region ?_
      refine sq_plain rfl rfl rfl (w_addi rfl (ev_tmp rfl) ev_ci (by first | omega | ((try simp only [List.length_map, List.length_take, List.length_cons, List.length_nil, chunks_len, szR] at *); omega) | (have hc2 := hc; simp only [Bool.and_eq_true, Bool.or_eq_true, Bool.or_eq_false_iff, Bool.and_eq_false_iff, Bool.not_eq_true', Bool.not_eq_false', decide_eq_true_eq, decide_eq_false_iff_not, beq_iff_eq, bne_iff_ne, List.length_map, List.length_take] at hc2; omega))) ?_
      refine sq_plain rfl rfl rfl (w_move rfl (ev_tmp rfl)) ?_
      refine sq_nil ?_
      refine round_end i (i + 1) ?_ ?_ (le_env ⟨rfl, rfl, rfl, rfl, trivial⟩)
      · exact ⟨by omega, by rw [hinv.2, drop_some hx, List.any_cons, show (n == x) = false from by simpa using Ne.symm k15]; rfl⟩
      · omega
  · intro h10
    have k10 := of_decide_eq_false h10; try simp only [List.length_map] at k10
    have hge : l.length ≤ i := by omega
    refine awp_exit ?_
    refine awp_seq ?_
    refine awp_region ?_
    refine sq_plain rfl rfl rfl (w_assign rfl ev_cb) ?_
    refine sq_nil ?_
    refine awp_ret ?_
    exact retR rfl (rv_tmp' rfl (by first | exact congrArg AV.bool (by rw [hinv.2, drop_some hx, List.any_cons, k15]; simp) | exact congrArg AV.bool (by rw [hinv.2, List.drop_eq_nil_of_le hge]; rfl)))
theorem has_spec (l : List Int) (n : Int) : FSpec Try.prog 91 [ints l, AV.int n] (AV.bool (l.any fun y => n == y)) := by
  refine spec_of_awp Try.func91 rfl Try.ntmps91 rfl ?_
  refine awp_len (t := 0) rfl fun hl => ?_
  try simp only [List.length_map] at hl
  refine awp_seq ?_
  refine awp_region ?_
  refine sq_plain rfl rfl rfl (w_assign rfl ev_cb) ?_
  refine sq_nil ?_
  refine awp_seq ?_
  refine awp_seq ?_
  refine awp_region ?_
  refine sq_plain rfl rfl rfl (w_move rfl (ev_tmp rfl)) ?_
  refine sq_plain rfl rfl rfl (w_llen rfl Try.underlying94 (ev_tmp rfl)) ?_
  refine sq_plain rfl rfl rfl (w_move rfl ev_ci) ?_
  refine sq_nil ?_
  refine awp_block ?_
  refine awp_loop_i [(1, _), (7, _), (8, _)] _ (fun (i : Nat) => i ≤ l.length ∧ (l.any fun y => n == y) = ((l.drop i).any fun y => n == y)) (fun (i : Nat) => []) (fun (i : Nat) => [(9, AV.int i)]) (fun (i : Nat) => l.length - i) (0) ?_ (le_env ⟨rfl, rfl, rfl, rfl, trivial⟩) ?_
  · exact ⟨Nat.zero_le _, rfl⟩
  intro i hinv
  refine awp_seq ?_
  refine awp_region ?_
  refine sq_plain rfl rfl rfl (w_lss rfl (ev_tmp rfl) (ev_tmp rfl)) ?_
  refine sq_nil ?_
  refine awp_seq ?_
  refine awp_cond (ev_tmp rfl) ?_ ?_
  · intro h10
    have k10 := of_decide_eq_true h10; try simp only [List.length_map] at k10
    have hlt : i < l.length := by omega
    obtain ⟨x, hx⟩ := get_some hlt
    refine awp_skip ?_
    refine awp_seq ?_
    refine awp_block ?_
    refine awp_seq ?_
    refine awp_region ?_
    refine sq_plain rfl rfl rfl (w_idxm rfl Try.underlying94 Try.sizeOf3 (ev_tmp rfl) (ev_tmp rfl) hx (by first | omega | ((try simp only [List.length_map, List.length_take, List.length_cons, List.length_nil, chunks_len, szR] at *); omega) | (have hc2 := hc; simp only [Bool.and_eq_true, Bool.or_eq_true, Bool.or_eq_false_iff, Bool.and_eq_false_iff, Bool.not_eq_true', Bool.not_eq_false', decide_eq_true_eq, decide_eq_false_iff_not, beq_iff_eq, bne_iff_ne, List.length_map, List.length_take] at hc2; omega))) ?_
    refine sq_plain rfl rfl rfl (w_loadE1 rfl (ev_tmp rfl) Try.isAgg3 rfl) ?_
    refine sq_plain rfl rfl rfl (w_assign rfl (ev_tmp rfl)) ?_
    refine sq_nil ?_
    refine awp_seq ?_
    refine awp_region ?_
    refine sq_plain rfl rfl rfl (w_move rfl (ev_tmp rfl)) ?_
    refine sq_plain rfl rfl rfl (w_move rfl (ev_tmp rfl)) ?_
    refine sq_plain rfl rfl rfl (w_eql rfl (ev_tmp rfl) (ev_tmp rfl)) ?_
    refine sq_nil ?_
    refine awp_cond (ev_tmp rfl) ?_ ?_
    · intro h15
      have k15 := eq_of_beqt h15; try simp only [List.length_map] at k15
      refine awp_seq ?_
      refine awp_region ?_
      refine sq_plain rfl rfl rfl (w_assign rfl ev_cb) ?_
      refine sq_nil ?_
      refine awp_ret ?_
      exact retR rfl (rv_tmp' rfl (by first | exact congrArg AV.bool (by rw [hinv.2, drop_some hx, List.any_cons, k15]; simp) | exact congrArg AV.bool (by rw [hinv.2, List.drop_eq_nil_of_le hge]; rfl)))
    · intro h15
      have k15 := ne_of_beqf h15; try simp only [List.length_map] at k15
      refine awp_skip ?_
      refine awp_region ?_
      refine sq_plain rfl rfl rfl (w_addi rfl (ev_tmp rfl) ev_ci (by first | omega | ((try simp only [List.length_map, List.length_take, List.length_cons, List.length_nil, chunks_len, szR] at *); omega) | (have hc2 := hc; simp only [Bool.and_eq_true, Bool.or_eq_true, Bool.or_eq_false_iff, Bool.and_eq_false_iff, Bool.not_eq_true', Bool.not_eq_false', decide_eq_true_eq, decide_eq_false_iff_not, beq_iff_eq, bne_iff_ne, List.length_map, List.length_take] at hc2; omega))) ?_
      refine sq_plain rfl rfl rfl (w_move rfl (ev_tmp rfl)) ?_
      refine sq_nil ?_
      refine round_end i (i + 1) ?_ ?_ (le_env ⟨rfl, rfl, rfl, rfl, trivial⟩)
      · exact ⟨by omega, by rw [hinv.2, drop_some hx, List.any_cons, show (n == x) = false from by simpa using Ne.symm k15]; rfl⟩
      · omega
  · intro h10
    have k10 := of_decide_eq_false h10; try simp only [List.length_map] at k10
    have hge : l.length ≤ i := by omega
    refine awp_exit ?_
    refine awp_seq ?_
    refine awp_region ?_
    refine sq_plain rfl rfl rfl (w_assign rfl ev_cb) ?_
    refine sq_nil ?_
    refine awp_ret ?_
    exact retR rfl (rv_tmp' rfl (by first | exact congrArg AV.bool (by rw [hinv.2, drop_some hx, List.any_cons, k15]; simp) | exact congrArg AV.bool (by rw [hinv.2, List.drop_eq_nil_of_le hge]; rfl)))
theorem askLock1_spec (t : Int) (x : TLock) (fixed : List Int) : FSpec Try.prog 253 [AV.int t, AV.eptr x.cs, AV.eptr [ints fixed]] (AV.bool (decide (t < x.Txn) || fixed.any fun y => t == y)) := by
  refine spec_of_awp Try.func253 rfl Try.ntmps253 rfl ?_
  refine awp_seq ?_
  refine awp_region ?_
  refine sq_plain rfl rfl rfl (w_assign rfl ev_cb) ?_
  refine sq_nil ?_
  refine awp_seq ?_
  refine awp_region ?_
  refine sq_plain rfl rfl rfl (w_move rfl (ev_tmp rfl)) ?_
  refine sq_plain rfl rfl rfl (w_fldE rfl Try.underlying96 rfl Try.sizeOf3 (ev_tmp rfl) rfl) ?_
  refine sq_plain rfl rfl rfl (w_loadE1 rfl (ev_tmp rfl) Try.isAgg3 rfl) ?_
  refine sq_plain rfl rfl rfl (w_lss rfl (ev_tmp rfl) (ev_tmp rfl)) ?_
  refine sq_plain rfl rfl rfl (w_move rfl (ev_tmp rfl)) ?_
  refine sq_grd rfl rfl (guard_f rfl rfl rfl) (fun hc => w_loadE1 rfl (ev_tmp rfl) Try.isAgg94 rfl) ?_
  refine sq_grd rfl rfl (guard_f rfl rfl rfl) (fun hc => w_move rfl (ev_tmp rfl)) ?_
  refine sq_grd rfl rfl (guard_f rfl rfl rfl) (fun hc => w_call rfl Try.call254 rfl (containsInt_spec _ _) (evl_cons (ev_whn rfl hc) (evl_cons (ev_whn rfl hc) evl_nil))) ?_
  refine sq_plain rfl rfl rfl (w_or rfl (ev_tmp rfl) (evif_w rfl)) ?_
  refine sq_plain rfl rfl rfl (w_assign rfl (ev_tmp rfl)) ?_
  refine sq_nil ?_
  refine awp_ret ?_
  exact retR rfl (rv_tmp' rfl (by first | rfl | (refine congrArg AV.bool ?_; simp_all; done)))
theorem askLock_spec (l : List TLock) (fixed : List Int) (x : TLock) (hs : sizeL TLock.size l ≤ 4194304) : FSpec Try.prog 192 [AV.list 3 (l.map TLock.cs), ints fixed, AV.agg x.cs] (AV.tup [AV.int (askL l fixed x (waitsR l x)).1, ints (askL l fixed x (waitsR l x)).2]) := by
  refine spec_of_awp Try.func192 rfl Try.ntmps192 rfl ?_
  refine awp_seq ?_
  refine awp_region ?_
  refine sq_box1 rfl rfl rfl rfl (ev_tmp rfl) (one_list _ _) ?_
  intro b4
  refine sq_box rfl rfl rfl rfl (ev_tmp rfl) ?_
  intro b5
  refine sq_plain rfl rfl rfl (w_assign rfl ev_ci) ?_
  refine sq_plain rfl rfl rfl (w_assign rfl (ev_cnil (sz := 1))) ?_
  refine sq_nil ?_
  refine awp_seq ?_
  refine awp_region ?_
  refine sq_plain rfl rfl rfl (w_move rfl (ev_tmp rfl)) ?_
  refine sq_plain rfl rfl rfl (w_loadA 0 rfl (ev_tmp rfl) rfl Try.isAgg96 Try.sizeOf96 rfl) ?_
  refine sq_plain rfl rfl rfl (w_call rfl Try.call197 rfl (waitsR_spec _ _ (by first | assumption | omega)) (evl_cons (ev_tmp rfl) (evl_cons (ev_tmp rfl) evl_nil))) ?_
  refine sq_plain rfl rfl rfl (w_assign rfl (ev_tmp rfl)) ?_
  refine sq_nil ?_
  refine awp_seq ?_
  refine awp_seq ?_
  refine awp_region ?_
  refine sq_plain rfl rfl rfl (w_move rfl (ev_tmp rfl)) ?_
  refine sq_plain rfl rfl rfl (w_llen rfl Try.underlying94 (ev_tmp rfl)) ?_
  refine sq_plain rfl rfl rfl (w_eql rfl (ev_tmp rfl) ev_ci) ?_
  refine sq_nil ?_
  refine awp_cond (ev_tmp rfl) ?_ ?_
  · intro h14
    have k14 := eq_of_beqt h14; try simp only [List.length_map] at k14
    have he : askL l fixed x (waitsR l x) = (1, []) := by (unfold askL; rw [if_pos (by omega)])
    rw [he]
    refine awp_seq ?_
    refine awp_region ?_
    refine sq_plain rfl rfl rfl (w_assign rfl ev_ci) ?_
    refine sq_plain rfl rfl rfl (w_assign rfl (ev_cnil (sz := 1))) ?_
    refine sq_nil ?_
    refine awp_ret ?_
    exact retN rfl (by decide) (rv_cons (rv_tmp' rfl (by rfl)) (rv_cons (rv_tmp' rfl (by rfl)) rv_nil))
  · intro h14
    have k14 := ne_of_beqf h14; try simp only [List.length_map] at k14
    refine awp_skip ?_
    refine awp_seq ?_
    refine awp_seq ?_
    refine awp_region ?_
    refine sq_plain rfl rfl rfl (w_move rfl (ev_tmp rfl)) ?_
    refine sq_plain rfl rfl rfl (w_clo rfl rfl (evl_cons (ev_tmp rfl) (evl_cons (ev_tmp rfl) evl_nil))) ?_
    refine sq_plain rfl rfl rfl (w_callB rfl Try.call188 rfl (containsFuncInt_spec _ _ _ (by first | (intros; trivial) | assumption | (intros; first | trivial | (simp_all; done)))) (flat_bool _) (evlb_cons (evb (ev_tmp rfl)) (evlb_cons (evb_weaken (evb_clo2 0 1 (ev_tmp rfl) rfl rfl) (clo_fun1 Try.call253 (fun t (_ : True) => askLock1_spec t _ _))) evlb_nil))) ?_
    refine sq_nil ?_
    refine awp_cond (ev_tmp rfl) ?_ ?_
    · intro h17
      have he : askL l fixed x (waitsR l x) = (2, []) := by (unfold askL; rw [if_neg (by omega), if_pos h17])
      rw [he]
      refine awp_seq ?_
      refine awp_region ?_
      refine sq_plain rfl rfl rfl (w_assign rfl ev_ci) ?_
      refine sq_plain rfl rfl rfl (w_assign rfl (ev_cnil (sz := 1))) ?_
      refine sq_nil ?_
      refine awp_ret ?_
      exact retN rfl (by decide) (rv_cons (rv_tmp' rfl (by rfl)) (rv_cons (rv_tmp' rfl (by rfl)) rv_nil))
    · intro h17
      have he : askL l fixed x (waitsR l x) = (3, waitsR l x) := by (unfold askL; rw [if_neg (by omega), if_neg (by rw [h17]; decide)])
      rw [he]
      refine awp_skip ?_
      refine awp_seq ?_
      refine awp_region ?_
      refine sq_plain rfl rfl rfl (w_move rfl (ev_tmp rfl)) ?_
      refine sq_plain rfl rfl rfl (w_assign rfl ev_ci) ?_
      refine sq_plain rfl rfl rfl (w_assign rfl (ev_tmp rfl)) ?_
      refine sq_nil ?_
      refine awp_ret ?_
      exact retN rfl (by decide) (rv_cons (rv_tmp' rfl (by rfl)) (rv_cons (rv_tmp' rfl (by rfl)) rv_nil))
theorem l12Ask_spec (l : List TLock) (fixed : List Int) (x : TLock) (hl : l.length ≤ 4194303) : FSpec Try.prog 196 [AV.list 3 (l.map TLock.cs), ints fixed, AV.agg x.cs] (AV.tup [AV.int (askL l fixed x (waitsS l x)).1, ints (askL l fixed x (waitsS l x)).2]) := by
  obtain ⟨w, hw⟩ : ∃ w, waitsS l x = w := ⟨_, rfl⟩
  have hwl := waitsS_len l x
  rw [hw] at hwl
  refine spec_of_awp Try.func196 rfl Try.ntmps196 rfl ?_
  refine awp_seq ?_
  refine awp_region ?_
  refine sq_box rfl rfl rfl rfl (ev_tmp rfl) ?_
  intro b5
  refine sq_plain rfl rfl rfl (w_assign rfl ev_ci) ?_
  refine sq_plain rfl rfl rfl (w_assign rfl (ev_cnil (sz := 1))) ?_
  refine sq_nil ?_
  refine awp_seq ?_
  refine awp_region ?_
  refine sq_plain rfl rfl rfl (w_move rfl (ev_tmp rfl)) ?_
  refine sq_plain rfl rfl rfl (w_loadA 0 rfl (ev_tmp rfl) rfl Try.isAgg96 Try.sizeOf96 rfl) ?_
  refine sq_plain rfl rfl rfl (w_call rfl Try.call203 rfl (waitsS_spec _ _ (by first | assumption | omega)) (evl_cons (ev_tmp rfl) (evl_cons (ev_tmp rfl) evl_nil))) ?_
  refine sq_plain rfl rfl rfl (w_assign rfl (ev_tmp rfl)) ?_
  refine sq_nil ?_
  refine awp_seq ?_
  refine awp_seq ?_
  rw [hw]
  refine awp_region ?_
  refine sq_plain rfl rfl rfl (w_move rfl (ev_tmp rfl)) ?_
  refine sq_plain rfl rfl rfl (w_llen rfl Try.underlying94 (ev_tmp rfl)) ?_
  refine sq_plain rfl rfl rfl (w_eql rfl (ev_tmp rfl) ev_ci) ?_
  refine sq_nil ?_
  refine awp_cond (ev_tmp rfl) ?_ ?_
  · intro h16
    have k16 := eq_of_beqt h16; try simp only [List.length_map] at k16
    have he : askL l fixed x w = (1, []) := by (unfold askL; rw [if_pos (by omega)])
    rw [he]
    refine awp_seq ?_
    refine awp_region ?_
    refine sq_plain rfl rfl rfl (w_assign rfl ev_ci) ?_
    refine sq_plain rfl rfl rfl (w_assign rfl (ev_cnil (sz := 1))) ?_
    refine sq_nil ?_
    refine awp_ret ?_
    exact retN rfl (by decide) (rv_cons (rv_tmp' rfl (by rfl)) (rv_cons (rv_tmp' rfl (by rfl)) rv_nil))
  · intro h16
    have k16 := ne_of_beqf h16; try simp only [List.length_map] at k16
    refine awp_skip ?_
    refine awp_seq ?_
    refine awp_seq ?_
    refine awp_region ?_
    refine sq_plain rfl rfl rfl (w_move rfl (ev_tmp rfl)) ?_
    refine sq_plain rfl rfl rfl (w_llen rfl Try.underlying94 (ev_tmp rfl)) ?_
    refine sq_plain rfl rfl rfl (w_move rfl ev_ci) ?_
    refine sq_nil ?_
    refine awp_block ?_
    refine awp_loop_i [(1, _), (5, _), (8, _), (17, _), (18, _)] _ (fun (i : Nat) => i ≤ w.length ∧ (w.any fun t => decide (t < x.Txn) || fixed.any fun y => t == y) = ((w.drop i).any fun t => decide (t < x.Txn) || fixed.any fun y => t == y)) (fun (i : Nat) => []) (fun (i : Nat) => [(19, AV.int i)]) (fun (i : Nat) => w.length - i) (0) ?_ (le_env ⟨rfl, rfl, rfl, rfl, rfl, rfl, trivial⟩) ?_
    · exact ⟨Nat.zero_le _, rfl⟩
    intro i hinv
    refine awp_seq ?_
    refine awp_region ?_
    refine sq_plain rfl rfl rfl (w_lss rfl (ev_tmp rfl) (ev_tmp rfl)) ?_
    refine sq_nil ?_
    refine awp_seq ?_
    refine awp_cond (ev_tmp rfl) ?_ ?_
    · intro h20
      have k20 := of_decide_eq_true h20; try simp only [List.length_map] at k20
      have hlt : i < w.length := by omega
      obtain ⟨y, hx⟩ := get_some hlt
      refine awp_skip ?_
      refine awp_seq ?_
      refine awp_block ?_
      refine awp_seq ?_
      refine awp_region ?_
      refine sq_plain rfl rfl rfl (w_idxm rfl Try.underlying94 Try.sizeOf3 (ev_tmp rfl) (ev_tmp rfl) hx (by first | omega | ((try simp only [List.length_map, List.length_take, List.length_cons, List.length_nil, chunks_len, szR] at *); omega) | (have hc2 := hc; simp only [Bool.and_eq_true, Bool.or_eq_true, Bool.or_eq_false_iff, Bool.and_eq_false_iff, Bool.not_eq_true', Bool.not_eq_false', decide_eq_true_eq, decide_eq_false_iff_not, beq_iff_eq, bne_iff_ne, List.length_map, List.length_take] at hc2; omega))) ?_
      refine sq_plain rfl rfl rfl (w_loadE1 rfl (ev_tmp rfl) Try.isAgg3 rfl) ?_
      refine sq_plain rfl rfl rfl (w_assign rfl (ev_tmp rfl)) ?_
      refine sq_nil ?_
      refine awp_seq ?_
      refine awp_region ?_
      refine sq_plain rfl rfl rfl (w_move rfl (ev_tmp rfl)) ?_
      refine sq_plain rfl rfl rfl (w_fldBn 1 rfl Try.underlying96 rfl Try.sizeOf3 (ev_tmp rfl) rfl) ?_
      refine sq_plain rfl rfl rfl (w_loadB1 0 rfl (ev_tmp rfl) rfl Try.isAgg3 rfl) ?_
      refine sq_plain rfl rfl rfl (w_lss rfl (ev_tmp rfl) (ev_tmp rfl)) ?_
      refine sq_plain rfl rfl rfl (w_move rfl (ev_tmp rfl)) ?_
      refine sq_grd rfl rfl (guard_f rfl rfl rfl) (fun hc => w_move rfl (ev_tmp rfl)) ?_
      refine sq_grd rfl rfl (guard_f rfl rfl rfl) (fun hc => w_move rfl (ev_tmp rfl)) ?_
      refine sq_grd rfl rfl (guard_f rfl rfl rfl) (fun hc => w_call rfl Try.call256 rfl (l1Has_spec _ _) (evl_cons (ev_whn rfl hc) (evl_cons (ev_whn rfl hc) evl_nil))) ?_
      refine sq_plain rfl rfl rfl (w_or rfl (ev_tmp rfl) (evif_w rfl)) ?_
      refine sq_nil ?_
      refine awp_cond (ev_tmp rfl) ?_ ?_
      · intro h31
        have hany : (w.any fun t => decide (t < x.Txn) || fixed.any fun y => t == y) = true := by (rw [hinv.2, drop_some hx, List.any_cons, h31]; rfl)
        have he : askL l fixed x w = (2, []) := by (unfold askL; rw [if_neg (by omega), if_pos hany])
        rw [he]
        refine awp_seq ?_
        refine awp_region ?_
        refine sq_plain rfl rfl rfl (w_assign rfl ev_ci) ?_
        refine sq_plain rfl rfl rfl (w_assign rfl (ev_cnil (sz := 1))) ?_
        refine sq_nil ?_
        refine awp_ret ?_
        exact retN rfl (by decide) (rv_cons (rv_tmp' rfl (by rfl)) (rv_cons (rv_tmp' rfl (by rfl)) rv_nil))
      · intro h31
        refine awp_skip ?_
        refine awp_region ?_
        refine sq_plain rfl rfl rfl (w_addi rfl (ev_tmp rfl) ev_ci (by first | omega | ((try simp only [List.length_map, List.length_take, List.length_cons, List.length_nil, chunks_len, szR] at *); omega) | (have hc2 := hc; simp only [Bool.and_eq_true, Bool.or_eq_true, Bool.or_eq_false_iff, Bool.and_eq_false_iff, Bool.not_eq_true', Bool.not_eq_false', decide_eq_true_eq, decide_eq_false_iff_not, beq_iff_eq, bne_iff_ne, List.length_map, List.length_take] at hc2; omega))) ?_
        refine sq_plain rfl rfl rfl (w_move rfl (ev_tmp rfl)) ?_
        refine sq_nil ?_
        refine round_end i (i + 1) ?_ ?_ (le_env ⟨rfl, rfl, rfl, rfl, rfl, rfl, trivial⟩)
        · exact ⟨by omega, by rw [hinv.2, drop_some hx, List.any_cons, h31]; rfl⟩
        · omega
    · intro h20
      have k20 := of_decide_eq_false h20; try simp only [List.length_map] at k20
      have hge : w.length ≤ i := by omega
      have hany : (w.any fun t => decide (t < x.Txn) || fixed.any fun y => t == y) = false := by (rw [hinv.2, List.drop_eq_nil_of_le hge]; rfl)
      have he : askL l fixed x w = (3, w) := by (unfold askL; rw [if_neg (by omega), if_neg (by rw [hany]; decide)])
      rw [he]
      refine awp_exit ?_
      refine awp_seq ?_
      refine awp_region ?_
      refine sq_plain rfl rfl rfl (w_move rfl (ev_tmp rfl)) ?_
      refine sq_plain rfl rfl rfl (w_assign rfl ev_ci) ?_
      refine sq_plain rfl rfl rfl (w_assign rfl (ev_tmp rfl)) ?_
      refine sq_nil ?_
      refine awp_ret ?_
      exact retN rfl (by decide) (rv_cons (rv_tmp' rfl (by rfl)) (rv_cons (rv_tmp' rfl (by rfl)) rv_nil))
theorem askLockA_spec (t : Int) : FSpec Try.prog 189 [AV.int t] (AV.bool (!isTxn t)) := by
  refine spec_of_awp Try.func189 rfl Try.ntmps189 rfl ?_
  refine awp_seq ?_
  refine awp_region ?_
  refine sq_plain rfl rfl rfl (w_assign rfl ev_cb) ?_
  refine sq_nil ?_
  refine awp_seq ?_
  refine awp_region ?_
  refine sq_plain rfl rfl rfl (w_move rfl (ev_tmp rfl)) ?_
  refine sq_plain rfl rfl rfl (w_call rfl Try.call190 rfl (isTxn_spec _) (evl_cons (ev_tmp rfl) evl_nil)) ?_
  refine sq_plain rfl rfl rfl (w_not rfl (ev_tmp rfl)) ?_
  refine sq_plain rfl rfl rfl (w_assign rfl (ev_tmp rfl)) ?_
  refine sq_nil ?_
  refine awp_ret ?_
  exact retR rfl (rv_tmp' rfl (by first | rfl | (refine congrArg AV.bool ?_; simp_all; done)))
theorem askR_spec (l : List TLock) (fixed : List Int) (x : TLock) (hs : sizeL TLock.size l ≤ 4194303) (hx : x.Key.length ≤ 4194304) : FSpec Try.prog 85 [AV.list 3 (l.map TLock.cs), ints fixed, AV.agg x.cs] (AV.tup [AV.int (askR l fixed x).1, ints (askR l fixed x).2.1, AV.bool (askR l fixed x).2.2]) := by
  refine spec_of_awp Try.func85 rfl Try.ntmps85 rfl ?_
  refine awp_seq ?_
  refine awp_region ?_
  refine sq_box rfl rfl rfl rfl (ev_tmp rfl) ?_
  intro b5
  refine sq_plain rfl rfl rfl (w_assign rfl ev_ci) ?_
  refine sq_plain rfl rfl rfl (w_assign rfl (ev_cnil (sz := 1))) ?_
  refine sq_plain rfl rfl rfl (w_assign rfl ev_cb) ?_
  refine sq_nil ?_
  refine awp_seq ?_
  refine awp_seq ?_
  refine awp_region ?_
  refine sq_plain rfl rfl rfl (w_move rfl (ev_tmp rfl)) ?_
  refine sq_plain rfl rfl rfl (w_call rfl Try.call89 rfl (goodLocks_spec _ (by first | assumption | omega)) (evl_cons (ev_tmp rfl) evl_nil)) ?_
  refine sq_plain rfl rfl rfl (w_not rfl (ev_tmp rfl)) ?_
  refine sq_plain rfl rfl rfl (w_move rfl (ev_tmp rfl)) ?_
  refine sq_grd rfl rfl (guard_f rfl rfl rfl) (fun hc => w_move rfl (ev_tmp rfl)) ?_
  refine sq_grd rfl rfl (guard_f rfl rfl rfl) (fun hc => w_llen rfl Try.underlying94 (ev_whn rfl hc)) ?_
  refine sq_grd rfl rfl (guard_f rfl rfl rfl) (fun hc => w_gtr rfl (ev_whn rfl hc) ev_ci) ?_
  refine sq_plain rfl rfl rfl (w_or rfl (ev_tmp rfl) (evif_w rfl)) ?_
  refine sq_plain rfl rfl rfl (w_move rfl (ev_tmp rfl)) ?_
  refine sq_grd rfl rfl (guard_f rfl rfl rfl) (fun hc => w_move rfl (ev_tmp rfl)) ?_
  refine sq_grd rfl rfl (guard_f rfl rfl rfl) (fun hc => w_call rfl Try.call188 rfl (containsFuncInt_spec _ _ _ (by first | (intros; trivial) | assumption | (intros; first | trivial | (simp_all; done)))) (evl_cons (ev_whn rfl hc) (evl_cons (ev_fun1 Try.call189 (fun t (_ : True) => askLockA_spec t)) evl_nil))) ?_
  refine sq_plain rfl rfl rfl (w_or rfl (ev_tmp rfl) (evif_w rfl)) ?_
  refine sq_plain rfl rfl rfl (w_move rfl (ev_tmp rfl)) ?_
  refine sq_grd rfl rfl (guard_f rfl rfl rfl) (fun hc => w_loadA 0 rfl (ev_tmp rfl) rfl Try.isAgg96 Try.sizeOf96 rfl) ?_
  refine sq_grd rfl rfl (guard_f rfl rfl rfl) (fun hc => w_call rfl Try.call191 rfl (isLock_spec _ (by omega)) (evl_cons (ev_whn rfl hc) evl_nil)) ?_
  refine sq_grd rfl rfl (guard_f rfl rfl rfl) (fun hc => w_not rfl (ev_whn rfl hc)) ?_
  refine sq_plain rfl rfl rfl (w_or rfl (ev_tmp rfl) (evif_w rfl)) ?_
  refine sq_nil ?_
  refine awp_cond (ev_tmp rfl) ?_ ?_
  · intro h27
    have hb : askBad l fixed x = true := by (unfold askBad; simpa using h27)
    have he : askR l fixed x = (0, [], false) := by (unfold askR; rw [if_pos hb])
    rw [he]
    refine awp_seq ?_
    refine awp_region ?_
    refine sq_plain rfl rfl rfl (w_assign rfl ev_ci) ?_
    refine sq_plain rfl rfl rfl (w_assign rfl (ev_cnil (sz := 1))) ?_
    refine sq_plain rfl rfl rfl (w_assign rfl ev_cb) ?_
    refine sq_nil ?_
    refine awp_ret ?_
    exact retN rfl (by decide) (rv_cons (rv_tmp' rfl (by rfl)) (rv_cons (rv_tmp' rfl (by rfl)) (rv_cons (rv_tmp' rfl (by rfl)) rv_nil)))
  · intro h27
    have hb : askBad l fixed x = false := by (unfold askBad; simpa using h27)
    have he : askR l fixed x = ((askL l fixed x (waitsR l x)).1, (askL l fixed x (waitsR l x)).2, true) := by (unfold askR; rw [if_neg (by rw [hb]; decide)])
    rw [he]
    refine awp_skip ?_
    refine awp_seq ?_
    refine awp_region ?_
    refine sq_plain rfl rfl rfl (w_move rfl (ev_tmp rfl)) ?_
    refine sq_plain rfl rfl rfl (w_move rfl (ev_tmp rfl)) ?_
    refine sq_plain rfl rfl rfl (w_loadA 0 rfl (ev_tmp rfl) rfl Try.isAgg96 Try.sizeOf96 rfl) ?_
    refine sq_plain rfl rfl rfl (w_call rfl Try.call192 rfl (askLock_spec _ _ _ (by first | assumption | omega)) (evl_cons (ev_tmp rfl) (evl_cons (ev_tmp rfl) (evl_cons (ev_tmp rfl) evl_nil)))) ?_
    refine sq_plain rfl rfl rfl (w_move rfl (ev_tmp rfl)) ?_
    refine sq_plain rfl rfl rfl (w_extract rfl (ev_tmp rfl) rfl) ?_
    refine sq_plain rfl rfl rfl (w_extract rfl (ev_tmp rfl) rfl) ?_
    refine sq_plain rfl rfl rfl (w_assign rfl (ev_tmp rfl)) ?_
    refine sq_plain rfl rfl rfl (w_assign rfl (ev_tmp rfl)) ?_
    refine sq_nil ?_
    refine awp_seq ?_
    refine awp_region ?_
    refine sq_plain rfl rfl rfl (w_move rfl (ev_tmp rfl)) ?_
    refine sq_plain rfl rfl rfl (w_move rfl (ev_tmp rfl)) ?_
    refine sq_plain rfl rfl rfl (w_assign rfl (ev_tmp rfl)) ?_
    refine sq_plain rfl rfl rfl (w_assign rfl (ev_tmp rfl)) ?_
    refine sq_plain rfl rfl rfl (w_assign rfl ev_cb) ?_
    refine sq_nil ?_
    refine awp_ret ?_
    exact retN rfl (by decide) (rv_cons (rv_tmp' rfl (by rfl)) (rv_cons (rv_tmp' rfl (by rfl)) (rv_cons (rv_tmp' rfl (by rfl)) rv_nil)))
theorem all_any_txn (l : List Int) : (!l.all fun g => within g 1 60) = l.any fun t => !isTxn t := by
  unfold isTxn
  induction l with
  | nil => rfl
  | cons y l ih => simp only [List.all_cons, List.any_cons, Bool.not_and, ih]
theorem askS_spec (l : List TLock) (fixed : List Int) (x : TLock) (hs : sizeL TLock.size l ≤ 4194303) (hx : x.Key.length ≤ 4194304) : FSpec Try.prog 86 [AV.list 3 (l.map TLock.cs), ints fixed, AV.agg x.cs] (AV.tup [AV.int (askS l fixed x).1, ints (askS l fixed x).2.1, AV.bool (askS l fixed x).2.2]) := by
  have hl : l.length ≤ 4194303 := Nat.le_trans sizeL_len hs
  refine spec_of_awp Try.func86 rfl Try.ntmps86 rfl ?_
  refine awp_seq ?_
  refine awp_region ?_
  refine sq_box rfl rfl rfl rfl (ev_tmp rfl) ?_
  intro b5
  refine sq_plain rfl rfl rfl (w_assign rfl ev_ci) ?_
  refine sq_plain rfl rfl rfl (w_assign rfl (ev_cnil (sz := 1))) ?_
  refine sq_plain rfl rfl rfl (w_assign rfl ev_cb) ?_
  refine sq_nil ?_
  refine awp_seq ?_
  refine awp_seq ?_
  refine awp_region ?_
  refine sq_plain rfl rfl rfl (w_move rfl (ev_tmp rfl)) ?_
  refine sq_plain rfl rfl rfl (w_call rfl Try.call193 rfl (l12Good_spec _ (by first | assumption | omega)) (evl_cons (ev_tmp rfl) evl_nil)) ?_
  refine sq_plain rfl rfl rfl (w_not rfl (ev_tmp rfl)) ?_
  refine sq_plain rfl rfl rfl (w_move rfl (ev_tmp rfl)) ?_
  refine sq_grd rfl rfl (guard_f rfl rfl rfl) (fun hc => w_move rfl (ev_tmp rfl)) ?_
  refine sq_grd rfl rfl (guard_f rfl rfl rfl) (fun hc => w_llen rfl Try.underlying94 (ev_whn rfl hc)) ?_
  refine sq_grd rfl rfl (guard_f rfl rfl rfl) (fun hc => w_gtr rfl (ev_whn rfl hc) ev_ci) ?_
  refine sq_plain rfl rfl rfl (w_or rfl (ev_tmp rfl) (evif_w rfl)) ?_
  refine sq_plain rfl rfl rfl (w_move rfl (ev_tmp rfl)) ?_
  refine sq_grd rfl rfl (guard_f rfl rfl rfl) (fun hc => w_move rfl (ev_tmp rfl)) ?_
  refine sq_grd rfl rfl (guard_f rfl rfl rfl) (fun hc => w_call rfl Try.call194 rfl (l1All_spec _ _ _) (evl_cons (ev_whn rfl hc) (evl_cons ev_ci (evl_cons ev_ci evl_nil)))) ?_
  refine sq_grd rfl rfl (guard_f rfl rfl rfl) (fun hc => w_not rfl (ev_whn rfl hc)) ?_
  refine sq_plain rfl rfl rfl (w_or rfl (ev_tmp rfl) (evif_w rfl)) ?_
  refine sq_plain rfl rfl rfl (w_move rfl (ev_tmp rfl)) ?_
  refine sq_grd rfl rfl (guard_f rfl rfl rfl) (fun hc => w_loadA 0 rfl (ev_tmp rfl) rfl Try.isAgg96 Try.sizeOf96 rfl) ?_
  refine sq_grd rfl rfl (guard_f rfl rfl rfl) (fun hc => w_call rfl Try.call195 rfl (l12Lock_spec _ (by omega)) (evl_cons (ev_whn rfl hc) evl_nil)) ?_
  refine sq_grd rfl rfl (guard_f rfl rfl rfl) (fun hc => w_not rfl (ev_whn rfl hc)) ?_
  refine sq_plain rfl rfl rfl (w_or rfl (ev_tmp rfl) (evif_w rfl)) ?_
  refine sq_nil ?_
  refine awp_cond (ev_tmp rfl) ?_ ?_
  · intro h28
    have hb : askBad l fixed x = true := by (unfold askBad; rw [← all_any_txn]; simpa using h28)
    have he : askS l fixed x = (0, [], false) := by (unfold askS; rw [if_pos hb])
    rw [he]
    refine awp_seq ?_
    refine awp_region ?_
    refine sq_plain rfl rfl rfl (w_assign rfl ev_ci) ?_
    refine sq_plain rfl rfl rfl (w_assign rfl (ev_cnil (sz := 1))) ?_
    refine sq_plain rfl rfl rfl (w_assign rfl ev_cb) ?_
    refine sq_nil ?_
    refine awp_ret ?_
    exact retN rfl (by decide) (rv_cons (rv_tmp' rfl (by rfl)) (rv_cons (rv_tmp' rfl (by rfl)) (rv_cons (rv_tmp' rfl (by rfl)) rv_nil)))
  · intro h28
    have hb : askBad l fixed x = false := by (unfold askBad; rw [← all_any_txn]; simpa using h28)
    have he : askS l fixed x = ((askL l fixed x (waitsS l x)).1, (askL l fixed x (waitsS l x)).2, true) := by (unfold askS; rw [if_neg (by rw [hb]; decide)])
    rw [he]
    refine awp_skip ?_
    refine awp_seq ?_
    refine awp_region ?_
    refine sq_plain rfl rfl rfl (w_move rfl (ev_tmp rfl)) ?_
    refine sq_plain rfl rfl rfl (w_move rfl (ev_tmp rfl)) ?_
    refine sq_plain rfl rfl rfl (w_loadA 0 rfl (ev_tmp rfl) rfl Try.isAgg96 Try.sizeOf96 rfl) ?_
    refine sq_plain rfl rfl rfl (w_call rfl Try.call196 rfl (l12Ask_spec _ _ _ (by first | assumption | omega)) (evl_cons (ev_tmp rfl) (evl_cons (ev_tmp rfl) (evl_cons (ev_tmp rfl) evl_nil)))) ?_
    refine sq_plain rfl rfl rfl (w_move rfl (ev_tmp rfl)) ?_
    refine sq_plain rfl rfl rfl (w_extract rfl (ev_tmp rfl) rfl) ?_
    refine sq_plain rfl rfl rfl (w_extract rfl (ev_tmp rfl) rfl) ?_
    refine sq_plain rfl rfl rfl (w_assign rfl (ev_tmp rfl)) ?_
    refine sq_plain rfl rfl rfl (w_assign rfl (ev_tmp rfl)) ?_
    refine sq_nil ?_
    refine awp_seq ?_
    refine awp_region ?_
    refine sq_plain rfl rfl rfl (w_move rfl (ev_tmp rfl)) ?_
    refine sq_plain rfl rfl rfl (w_move rfl (ev_tmp rfl)) ?_
    refine sq_plain rfl rfl rfl (w_assign rfl (ev_tmp rfl)) ?_
    refine sq_plain rfl rfl rfl (w_assign rfl (ev_tmp rfl)) ?_
    refine sq_plain rfl rfl rfl (w_assign rfl ev_cb) ?_
    refine sq_nil ?_
    refine awp_ret ?_
    exact retN rfl (by decide) (rv_cons (rv_tmp' rfl (by rfl)) (rv_cons (rv_tmp' rfl (by rfl)) (rv_cons (rv_tmp' rfl (by rfl)) rv_nil)))
theorem waitsP_spec (l : List TLock) (x : TLock) (hs : sizeL TLock.size l ≤ 4194303) (hx : x.Key.length ≤ 4194304) : FSpec Try.prog 87 [AV.list 3 (l.map TLock.cs), AV.agg x.cs] (AV.tup [ints (waitsP l x).1, AV.bool (waitsP l x).2]) := by
  refine spec_of_awp Try.func87 rfl Try.ntmps87 rfl ?_
  refine awp_seq ?_
  refine awp_region ?_
  refine sq_box rfl rfl rfl rfl (ev_tmp rfl) ?_
  intro b3
  refine sq_plain rfl rfl rfl (w_assign rfl (ev_cnil (sz := 1))) ?_
  refine sq_plain rfl rfl rfl (w_assign rfl ev_cb) ?_
  refine sq_nil ?_
  refine awp_seq ?_
  refine awp_seq ?_
  refine awp_region ?_
  refine sq_plain rfl rfl rfl (w_move rfl (ev_tmp rfl)) ?_
  refine sq_plain rfl rfl rfl (w_call rfl Try.call89 rfl (goodLocks_spec _ (by first | assumption | omega)) (evl_cons (ev_tmp rfl) evl_nil)) ?_
  refine sq_plain rfl rfl rfl (w_not rfl (ev_tmp rfl)) ?_
  refine sq_plain rfl rfl rfl (w_move rfl (ev_tmp rfl)) ?_
  refine sq_grd rfl rfl (guard_f rfl rfl rfl) (fun hc => w_loadA 0 rfl (ev_tmp rfl) rfl Try.isAgg96 Try.sizeOf96 rfl) ?_
  refine sq_grd rfl rfl (guard_f rfl rfl rfl) (fun hc => w_call rfl Try.call191 rfl (isLock_spec _ (by omega)) (evl_cons (ev_whn rfl hc) evl_nil)) ?_
  refine sq_grd rfl rfl (guard_f rfl rfl rfl) (fun hc => w_not rfl (ev_whn rfl hc)) ?_
  refine sq_plain rfl rfl rfl (w_or rfl (ev_tmp rfl) (evif_w rfl)) ?_
  refine sq_nil ?_
  refine awp_cond (ev_tmp rfl) ?_ ?_
  · intro h13
    have he : waitsP l x = ([], false) := by (unfold waitsP; rw [if_pos h13])
    rw [he]
    refine awp_seq ?_
    refine awp_region ?_
    refine sq_plain rfl rfl rfl (w_assign rfl (ev_cnil (sz := 1))) ?_
    refine sq_plain rfl rfl rfl (w_assign rfl ev_cb) ?_
    refine sq_nil ?_
    refine awp_ret ?_
    exact retN rfl (by decide) (rv_cons (rv_tmp' rfl (by rfl)) (rv_cons (rv_tmp' rfl (by rfl)) rv_nil))
  · intro h13
    have he : waitsP l x = (waitsR l x, true) := by (unfold waitsP; rw [if_neg (by rw [h13]; decide)])
    rw [he]
    refine awp_skip ?_
    refine awp_seq ?_
    refine awp_region ?_
    refine sq_plain rfl rfl rfl (w_move rfl (ev_tmp rfl)) ?_
    refine sq_plain rfl rfl rfl (w_loadA 0 rfl (ev_tmp rfl) rfl Try.isAgg96 Try.sizeOf96 rfl) ?_
    refine sq_plain rfl rfl rfl (w_call rfl Try.call197 rfl (waitsR_spec _ _ (by first | assumption | omega)) (evl_cons (ev_tmp rfl) (evl_cons (ev_tmp rfl) evl_nil))) ?_
    refine sq_plain rfl rfl rfl (w_assign rfl (ev_tmp rfl)) ?_
    refine sq_plain rfl rfl rfl (w_assign rfl ev_cb) ?_
    refine sq_nil ?_
    refine awp_ret ?_
    exact retN rfl (by decide) (rv_cons (rv_tmp' rfl (by rfl)) (rv_cons (rv_tmp' rfl (by rfl)) rv_nil))
end Go.Proofs.Yteliahajeokciaa
