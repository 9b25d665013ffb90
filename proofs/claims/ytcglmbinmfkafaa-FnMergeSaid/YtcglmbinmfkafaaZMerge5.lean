/- Texts of the claim, part 5. -/
import Derived.ProofKit
import Derived.OpenShut
import Derived.ShutString
import Derived.ChangeOld
import Derived.Test.YtcglmbinmfkafaaZMerge4

set_option linter.unusedVariables false
set_option linter.unusedSimpArgs false
set_option maxRecDepth 100000
set_option maxHeartbeats 1000000
namespace Go.Proofs.Ytcglmbinmfkafaa
open Go Go.AV Go.M
attribute [local irreducible] OpW OpA OpS AWP FSpec ESpec GSpec OpE RetOk RetOkG RvDen Le Ev GuardIs SrcIs Int.tmod Int.tdiv IntKind.wrap
theorem mid_eq (i j : Nat) (h : i + j ≤ 9223372036854775807) : (IntKind.wrap .i64 (IntKind.wrap .u64 ((i : Int) + (j : Int)) / 2 ^ (1 : Int).toNat)) = (((i + j) / 2 : Nat) : Int) := by
  have h1 : IntKind.wrap .u64 ((i : Int) + (j : Int)) = (i : Int) + (j : Int) := by
    unfold IntKind.wrap
    simp only [IntKind.bits, IntKind.signed]
    exact Int.emod_eq_of_lt (by omega) (by omega)
  rw [h1, show ((i : Int) + (j : Int)) / 2 ^ (1 : Int).toNat = (((i + j) / 2 : Nat) : Int) by rw [show (2 : Int) ^ (1 : Int).toNat = 2 from rfl]; omega]
  exact in64 (by omega)
theorem upR_next {α : Type} [Inhabited α] (l : List α) {a k : Nat} (h : a ≤ k) : upR l a (k + 1 - a) = swp (upR l a (k - a)) k (k + 1) := by
  rw [show k + 1 - a = (k - a) + 1 by omega]
  show swp _ (a + (k - a)) (a + (k - a) + 1) = _
  rw [show a + (k - a) = k by omega]
theorem downR_next {α : Type} [Inhabited α] (l : List α) {m k : Nat} (h : k ≤ m) (h1 : 1 ≤ k) : downR l m (m - (k - 1)) = swp (downR l m (m - k)) k (k - 1) := by
  rw [show m - (k - 1) = (m - k) + 1 by omega]
  show swp _ (m - (m - k)) (m - (m - k) - 1) = _
  rw [show m - (m - k) = k by omega]
theorem rot_none {α : Type} [Inhabited α] {l : List α} {p m q : Nat} (h1 : p ≤ m) (h2 : m ≤ q) (h : p = m ∨ q = m) : Rot l l p m q where
  out k hk := rfl
  fst k hk := by congr 1; omega
  snd k hk := by congr 1; omega
theorem symMerge_own (v : Value) (f : TFeedItem → TFeedItem → Int) (hs : Swo fun x y => decide (f x y < 0)) : ∀ (N : Nat) (l : List TFeedItem) (a m b : Nat), b - a ≤ N → a < m → m < b → b ≤ l.length → l.length ≤ 1048576 →
    SortedOn (fun x y => decide (f x y < 0)) l a m → SortedOn (fun x y => decide (f x y < 0)) l m b →
    GSpec Try.prog 50 [AV.is v, AV.int a, AV.int m, AV.int b, AV.fun2 Try.prog (fun _ _ => True) (fun x : TFeedItem => AV.agg x.cs) (fun y : TFeedItem => AV.agg y.cs) (fun x y => AV.int (f x y))] [.arr v 43 5 (l.map TFeedItem.cs)]
      (fun l' : List TFeedItem => Shuf l l' a b ∧ SortedOn (fun x y => decide (f x y < 0)) l' a b) (fun l' => [.arr v 43 5 (l'.map TFeedItem.cs)]) (fun _ => AV.tup []) := by
  intro N
  induction N with
  | zero => intro l a m b h1 h2 h3; exact absurd h1 (by omega)
  | succ N ih =>
  intro l a m b hN ham hmb hb hl s1 s2
  refine gspec_of_awp Try.func50 rfl Try.ntmps50 rfl ?_
  refine awp_seq ?_
  refine awp_seq ?_
  refine awp_region ?_
  refine sq_plain rfl rfl rfl (w_move rfl (ev_tmp rfl)) ?_
  refine sq_plain rfl rfl rfl (w_move rfl (ev_tmp rfl)) ?_
  refine sq_plain rfl rfl rfl (w_subi rfl (ev_tmp rfl) (ev_tmp rfl) (by first | omega | ((try simp only [List.length_map, List.length_take, List.length_cons, List.length_nil, chunks_len, szR] at *); omega) | (have hc2 := hc; simp only [Bool.and_eq_true, Bool.or_eq_true, Bool.or_eq_false_iff, Bool.and_eq_false_iff, Bool.not_eq_true', Bool.not_eq_false', decide_eq_true_eq, decide_eq_false_iff_not, beq_iff_eq, bne_iff_ne, List.length_map, List.length_take] at hc2; omega))) ?_
  refine sq_plain rfl rfl rfl (w_eql rfl (ev_tmp rfl) ev_ci) ?_
  refine sq_nil ?_
  refine awp_cond (ev_tmp rfl) ?_ ?_
  · intro h28
    have k28 := eq_of_beqt h28; try simp only [List.length_map] at k28
    have ham1 : m = a + 1 := by omega
    refine awp_seq ?_
    refine awp_region ?_
    refine sq_plain rfl rfl rfl (w_move rfl (ev_tmp rfl)) ?_
    refine sq_plain rfl rfl rfl (w_assign rfl (ev_tmp rfl)) ?_
    refine sq_nil ?_
    refine awp_seq ?_
    refine awp_region ?_
    refine sq_plain rfl rfl rfl (w_move rfl (ev_tmp rfl)) ?_
    refine sq_plain rfl rfl rfl (w_assign rfl (ev_tmp rfl)) ?_
    refine sq_nil ?_
    refine awp_seq ?_
    refine awp_block ?_
    refine awp_loop_i2 [(0, _), (1, _), (2, _), (3, _), (4, _)] _ (fun (i : Nat) (j : Nat) => (m ≤ i ∧ i ≤ j ∧ j ≤ b) ∧ (j = b ∨ ∃ x y, l[a]? = some x ∧ l[j]? = some y ∧ decide (f y x < 0) = false) ∧ (i = m ∨ ∃ x y, l[i - 1]? = some x ∧ l[a]? = some y ∧ decide (f x y < 0) = true)) (fun (i : Nat) (j : Nat) => [.arr v 43 5 (l.map TFeedItem.cs)]) (fun (i : Nat) (j : Nat) => [(10, AV.int i), (11, AV.int j)]) (fun (i : Nat) (j : Nat) => j - i) (m) (b) ?_ (le_eq (by rfl) ⟨rfl, rfl, rfl, rfl, rfl, rfl, rfl, trivial⟩) ?_
    · exact ⟨by omega, .inl rfl, .inl rfl⟩
    intro i j hinv
    refine awp_seq ?_
    refine awp_seq ?_
    refine awp_region ?_
    refine sq_plain rfl rfl rfl (w_move rfl (ev_tmp rfl)) ?_
    refine sq_plain rfl rfl rfl (w_move rfl (ev_tmp rfl)) ?_
    refine sq_plain rfl rfl rfl (w_lss rfl (ev_tmp rfl) (ev_tmp rfl)) ?_
    refine sq_nil ?_
    refine awp_cond (ev_tmp rfl) ?_ ?_
    · intro h33
      have k33 := of_decide_eq_true h33; try simp only [List.length_map] at k33
      have hmid : (IntKind.wrap .i64 (IntKind.wrap .u64 ((i : Int) + (j : Int)) / 2 ^ (1 : Int).toNat)) = (((i + j) / 2 : Nat) : Int) := mid_eq i j (by omega)
      obtain ⟨x, hx⟩ := get_some (show a < l.length by omega)
      obtain ⟨y, hy⟩ := get_some (show (i + j) / 2 < l.length by omega)
      refine awp_skip ?_
      refine awp_block ?_
      refine awp_seq ?_
      refine awp_region ?_
      refine sq_plain rfl rfl rfl (w_move rfl (ev_tmp rfl)) ?_
      refine sq_plain rfl rfl rfl (w_move rfl (ev_tmp rfl)) ?_
      refine sq_plain rfl rfl rfl (w_addi rfl (ev_tmp rfl) (ev_tmp rfl) (by first | omega | ((try simp only [List.length_map, List.length_take, List.length_cons, List.length_nil, chunks_len, szR] at *); omega) | (have hc2 := hc; simp only [Bool.and_eq_true, Bool.or_eq_true, Bool.or_eq_false_iff, Bool.and_eq_false_iff, Bool.not_eq_true', Bool.not_eq_false', decide_eq_true_eq, decide_eq_false_iff_not, beq_iff_eq, bne_iff_ne, List.length_map, List.length_take] at hc2; omega))) ?_
      refine sq_plain rfl rfl rfl (w_conv rfl (by kernel_rfl) Try.underlying80 (ev_tmp rfl)) ?_
      refine sq_plain rfl rfl rfl (w_shr rfl (ev_tmp rfl) ev_ci (by decide) (by decide)) ?_
      refine sq_plain rfl rfl rfl (w_conv rfl (by kernel_rfl) Try.underlying3 (ev_tmp rfl)) ?_
      refine sq_plain rfl rfl rfl (w_assign rfl (ev_tmp rfl)) ?_
      refine sq_nil ?_
      refine awp_seq ?_
      refine awp_region_any (by kernel_rfl) (by kernel_rfl) rfl ?_
      refine ch_plain rfl rfl (w_move rfl (ev_tmp rfl)) ?_
      refine ch_plain rfl rfl (w_move rfl (ev_tmp rfl)) ?_
      refine ch_plain rfl rfl (w_move rfl (ev_tmp rfl)) ?_
      refine ch_plain rfl rfl (w_aidx 0 rfl Try.underlying24 Try.sizeOf43 (ev_tmp rfl) rfl (ev_tmp rfl) (by first | omega | ((try simp only [List.length_map, List.length_take, List.length_cons, List.length_nil, chunks_len, szR] at *); omega) | (have hc2 := hc; simp only [Bool.and_eq_true, Bool.or_eq_true, Bool.or_eq_false_iff, Bool.and_eq_false_iff, Bool.not_eq_true', Bool.not_eq_false', decide_eq_true_eq, decide_eq_false_iff_not, beq_iff_eq, bne_iff_ne, List.length_map, List.length_take] at hc2; omega)) (by first | omega | ((try simp only [List.length_map, List.length_take, List.length_cons, List.length_nil, chunks_len, szR] at *); omega) | (have hc2 := hc; simp only [Bool.and_eq_true, Bool.or_eq_true, Bool.or_eq_false_iff, Bool.and_eq_false_iff, Bool.not_eq_true', Bool.not_eq_false', decide_eq_true_eq, decide_eq_false_iff_not, beq_iff_eq, bne_iff_ne, List.length_map, List.length_take] at hc2; omega))) ?_
      refine ch_plain rfl rfl (w_loadX 0 rfl (ev_tmp rfl) rfl Try.isAgg43 Try.sizeOf43 (by rw [hmid, Int.toNat_natCast, List.getElem?_map, hy]; rfl) (by decide)) ?_
      refine ch_plain rfl rfl (w_move rfl (ev_tmp rfl)) ?_
      refine ch_plain rfl rfl (w_move rfl (ev_tmp rfl)) ?_
      refine ch_plain rfl rfl (w_aidx 0 rfl Try.underlying24 Try.sizeOf43 (ev_tmp rfl) rfl (ev_tmp rfl) (by first | omega | ((try simp only [List.length_map, List.length_take, List.length_cons, List.length_nil, chunks_len, szR] at *); omega) | (have hc2 := hc; simp only [Bool.and_eq_true, Bool.or_eq_true, Bool.or_eq_false_iff, Bool.and_eq_false_iff, Bool.not_eq_true', Bool.not_eq_false', decide_eq_true_eq, decide_eq_false_iff_not, beq_iff_eq, bne_iff_ne, List.length_map, List.length_take] at hc2; omega)) (by first | omega | ((try simp only [List.length_map, List.length_take, List.length_cons, List.length_nil, chunks_len, szR] at *); omega) | (have hc2 := hc; simp only [Bool.and_eq_true, Bool.or_eq_true, Bool.or_eq_false_iff, Bool.and_eq_false_iff, Bool.not_eq_true', Bool.not_eq_false', decide_eq_true_eq, decide_eq_false_iff_not, beq_iff_eq, bne_iff_ne, List.length_map, List.length_take] at hc2; omega))) ?_
      refine ch_plain rfl rfl (w_loadX 0 rfl (ev_tmp rfl) rfl Try.isAgg43 Try.sizeOf43 (by rw [Int.toNat_natCast, List.getElem?_map, hx]; rfl) (by decide)) ?_
      refine ch_plain rfl rfl (w_callv2 rfl (ev_tmp rfl) y x trivial (ev_tmp rfl) (ev_tmp rfl)) ?_
      refine ch_plain rfl rfl (w_lss rfl (ev_tmp rfl) ev_ci) ?_
      refine ch_nil ?_
      refine awp_cond (ev_tmp rfl) ?_ ?_
      · intro h50
        have k50 := of_decide_eq_true h50; try simp only [List.length_map] at k50
        refine awp_region ?_
        refine sq_plain rfl rfl rfl (w_move rfl (ev_tmp rfl)) ?_
        refine sq_plain rfl rfl rfl (w_addi rfl (ev_tmp rfl) ev_ci (by first | omega | ((try simp only [List.length_map, List.length_take, List.length_cons, List.length_nil, chunks_len, szR] at *); omega) | (have hc2 := hc; simp only [Bool.and_eq_true, Bool.or_eq_true, Bool.or_eq_false_iff, Bool.and_eq_false_iff, Bool.not_eq_true', Bool.not_eq_false', decide_eq_true_eq, decide_eq_false_iff_not, beq_iff_eq, bne_iff_ne, List.length_map, List.length_take] at hc2; omega))) ?_
        refine sq_plain rfl rfl rfl (w_assign rfl (ev_tmp rfl)) ?_
        refine sq_nil ?_
        refine blockN ?_
        refine round_end2 i j ((i + j) / 2 + 1) (j) ?_ ?_ (le_eq (by rfl) ⟨(by first | rfl | exact congrArg (fun z => some (AV.int z)) (by rw [hmid]; omega)), (by first | rfl | exact congrArg (fun z => some (AV.int z)) hmid), rfl, rfl, rfl, rfl, rfl, trivial⟩)
        · exact ⟨by omega, hinv.2.1, .inr ⟨y, x, by rw [Nat.add_sub_cancel]; exact hy, hx, h50⟩⟩
        · omega
      · intro h50
        have k50 := of_decide_eq_false h50; try simp only [List.length_map] at k50
        refine awp_region ?_
        refine sq_plain rfl rfl rfl (w_move rfl (ev_tmp rfl)) ?_
        refine sq_plain rfl rfl rfl (w_assign rfl (ev_tmp rfl)) ?_
        refine sq_nil ?_
        refine blockN ?_
        refine round_end2 i j (i) ((i + j) / 2) ?_ ?_ (le_eq (by rfl) ⟨(by first | rfl | exact congrArg (fun z => some (AV.int z)) (by rw [hmid]; omega)), (by first | rfl | exact congrArg (fun z => some (AV.int z)) hmid), rfl, rfl, rfl, rfl, rfl, trivial⟩)
        · exact ⟨by omega, .inr ⟨x, y, hx, hy, h50⟩, hinv.2.2⟩
        · omega
    · intro h33
      have k33 := of_decide_eq_false h33; try simp only [List.length_map] at k33
      have hij : j = i := by omega
      subst hij
      have hinv0 := hinv
      refine awp_exit ?_
      refine awp_seq ?_
      refine awp_seq ?_
      refine awp_region ?_
      refine sq_plain rfl rfl rfl (w_move rfl (ev_tmp rfl)) ?_
      refine sq_plain rfl rfl rfl (w_assign rfl (ev_tmp rfl)) ?_
      refine sq_nil ?_
      refine awp_block ?_
      refine awp_loop_i [(0, _), (1, _), (2, _), (3, _), (4, _), (10, _)] _ (fun (k : Nat) => a ≤ k ∧ k + 1 ≤ j) (fun (k : Nat) => [.arr v 43 5 ((upR l a (k - a)).map TFeedItem.cs)]) (fun (k : Nat) => [(13, AV.int k)]) (fun (k : Nat) => j - k) (a) ?_ (le_eq (by (rw [Nat.sub_self]; rfl)) ⟨rfl, rfl, rfl, rfl, rfl, rfl, rfl, trivial⟩) ?_
      · omega
      intro k hinv
      have hul := upR_len l a (k - a)
      refine awp_seq ?_
      refine awp_seq ?_
      refine awp_region ?_
      refine sq_plain rfl rfl rfl (w_move rfl (ev_tmp rfl)) ?_
      refine sq_plain rfl rfl rfl (w_move rfl (ev_tmp rfl)) ?_
      refine sq_plain rfl rfl rfl (w_subi rfl (ev_tmp rfl) ev_ci (by first | omega | ((try simp only [List.length_map, List.length_take, List.length_cons, List.length_nil, chunks_len, szR] at *); omega) | (have hc2 := hc; simp only [Bool.and_eq_true, Bool.or_eq_true, Bool.or_eq_false_iff, Bool.and_eq_false_iff, Bool.not_eq_true', Bool.not_eq_false', decide_eq_true_eq, decide_eq_false_iff_not, beq_iff_eq, bne_iff_ne, List.length_map, List.length_take] at hc2; omega))) ?_
      refine sq_plain rfl rfl rfl (w_lss rfl (ev_tmp rfl) (ev_tmp rfl)) ?_
      refine sq_nil ?_
      refine awp_cond (ev_tmp rfl) ?_ ?_
      · intro h58
        have k58 := of_decide_eq_true h58; try simp only [List.length_map] at k58
        obtain ⟨x1, hx1⟩ := get_some (show k < (upR l a (k - a)).length by omega)
        obtain ⟨y1, hy1⟩ := get_some (show k + 1 < (upR l a (k - a)).length by omega)
        refine awp_skip ?_
        refine awp_seq ?_
        refine awp_block ?_
        refine awp_region_tree [] 17 (.pure 0 (.pure 1 (.pure 2 (.pure 3 (.pure 4 (.pure 5 (.pure 6 (.pure 7 (.pure 10 (.pure 11 (.e2 8 (.e2 9 (.e1 12 (.e1 13 (.e1 14 (.e1 15 (.e1 16 .nil))))) 12 (.e2 9 (.e1 13 (.e1 14 (.e1 15 (.e1 16 .nil)))) 13 (.e1 9 (.e1 14 (.e1 15 (.e1 16 .nil)))))) 12 (.e2 8 (.e2 9 (.e1 13 (.e1 14 (.e1 15 (.e1 16 .nil)))) 13 (.e1 9 (.e1 14 (.e1 15 (.e1 16 .nil))))) 13 (.e1 8 (.e1 9 (.e1 14 (.e1 15 (.e1 16 .nil))))))))))))))))) (by kernel_rfl) (by kernel_rfl) rfl invx_all ?_
        refine bt_plain rfl rfl rfl (fun ext => w_move rfl (ev_tmp rfl)) ?_
        refine bt_plain rfl rfl rfl (fun ext => w_move rfl (ev_tmp rfl)) ?_
        refine bt_plain rfl rfl rfl (fun ext => w_move rfl (ev_tmp rfl)) ?_
        refine bt_plain rfl rfl rfl (fun ext => w_move rfl (ev_tmp rfl)) ?_
        refine bt_plain rfl rfl rfl (fun ext => w_addi rfl (ev_tmp rfl) ev_ci (by first | omega | ((try simp only [List.length_map, List.length_take, List.length_cons, List.length_nil, chunks_len, szR] at *); omega) | (have hc2 := hc; simp only [Bool.and_eq_true, Bool.or_eq_true, Bool.or_eq_false_iff, Bool.and_eq_false_iff, Bool.not_eq_true', Bool.not_eq_false', decide_eq_true_eq, decide_eq_false_iff_not, beq_iff_eq, bne_iff_ne, List.length_map, List.length_take] at hc2; omega))) ?_
        refine bt_plain rfl rfl rfl (fun ext => w_move rfl (ev_tmp rfl)) ?_
        refine bt_plain rfl rfl rfl (fun ext => w_move rfl (ev_tmp rfl)) ?_
        refine bt_plain rfl rfl rfl (fun ext => w_addi rfl (ev_tmp rfl) ev_ci (by first | omega | ((try simp only [List.length_map, List.length_take, List.length_cons, List.length_nil, chunks_len, szR] at *); omega) | (have hc2 := hc; simp only [Bool.and_eq_true, Bool.or_eq_true, Bool.or_eq_false_iff, Bool.and_eq_false_iff, Bool.not_eq_true', Bool.not_eq_false', decide_eq_true_eq, decide_eq_false_iff_not, beq_iff_eq, bne_iff_ne, List.length_map, List.length_take] at hc2; omega))) ?_
        refine bt_plain rfl rfl rfl (fun ext => w_move rfl (ev_tmp rfl)) ?_
        refine bt_plain rfl rfl rfl (fun ext => w_move rfl (ev_tmp rfl)) ?_
        refine bt_e2 ?_ ?_
        · refine eff_s rfl rfl rfl (opE_pure (w_aidx 0 rfl Try.underlying24 Try.sizeOf43 (ev_tmp rfl) rfl (ev_tmp rfl) (by first | omega | ((try simp only [List.length_map, List.length_take, List.length_cons, List.length_nil, chunks_len, szR] at *); omega) | (have hc2 := hc; simp only [Bool.and_eq_true, Bool.or_eq_true, Bool.or_eq_false_iff, Bool.and_eq_false_iff, Bool.not_eq_true', Bool.not_eq_false', decide_eq_true_eq, decide_eq_false_iff_not, beq_iff_eq, bne_iff_ne, List.length_map, List.length_take] at hc2; omega)) (by first | omega | ((try simp only [List.length_map, List.length_take, List.length_cons, List.length_nil, chunks_len, szR] at *); omega) | (have hc2 := hc; simp only [Bool.and_eq_true, Bool.or_eq_true, Bool.or_eq_false_iff, Bool.and_eq_false_iff, Bool.not_eq_true', Bool.not_eq_false', decide_eq_true_eq, decide_eq_false_iff_not, beq_iff_eq, bne_iff_ne, List.length_map, List.length_take] at hc2; omega)))) (fun a _ => (by first | exact invx_mk rfl | exact invx_mk (List.append_assoc _ _ _) | exact invx_all)) ?_
          intro _ _
          refine bt_e2 ?_ ?_
          · refine eff_s rfl rfl rfl (opE_pure (w_loadX 0 rfl (ev_tmp rfl) rfl Try.isAgg43 Try.sizeOf43 (by rw [show ((k : Int) + 1).toNat = k + 1 by omega, List.getElem?_map, hy1]; rfl) (by decide))) (fun a _ => (by first | exact invx_mk rfl | exact invx_mk (List.append_assoc _ _ _) | exact invx_all)) ?_
            intro _ _
            refine bt_e1 ?_
            refine eff_s rfl rfl rfl (opE_pure (w_aidx 0 rfl Try.underlying24 Try.sizeOf43 (ev_tmp rfl) rfl (ev_tmp rfl) (by first | omega | ((try simp only [List.length_map, List.length_take, List.length_cons, List.length_nil, chunks_len, szR] at *); omega) | (have hc2 := hc; simp only [Bool.and_eq_true, Bool.or_eq_true, Bool.or_eq_false_iff, Bool.and_eq_false_iff, Bool.not_eq_true', Bool.not_eq_false', decide_eq_true_eq, decide_eq_false_iff_not, beq_iff_eq, bne_iff_ne, List.length_map, List.length_take] at hc2; omega)) (by first | omega | ((try simp only [List.length_map, List.length_take, List.length_cons, List.length_nil, chunks_len, szR] at *); omega) | (have hc2 := hc; simp only [Bool.and_eq_true, Bool.or_eq_true, Bool.or_eq_false_iff, Bool.and_eq_false_iff, Bool.not_eq_true', Bool.not_eq_false', decide_eq_true_eq, decide_eq_false_iff_not, beq_iff_eq, bne_iff_ne, List.length_map, List.length_take] at hc2; omega)))) (fun a _ => (by first | exact invx_mk rfl | exact invx_mk (List.append_assoc _ _ _) | exact invx_all)) ?_
            intro _ _
            refine bt_e1 ?_
            refine eff_s rfl rfl rfl (opE_pure (w_loadX 0 rfl (ev_tmp rfl) rfl Try.isAgg43 Try.sizeOf43 (by rw [Int.toNat_natCast, List.getElem?_map, hx1]; rfl) (by decide))) (fun a _ => (by first | exact invx_mk rfl | exact invx_mk (List.append_assoc _ _ _) | exact invx_all)) ?_
            intro _ _
            refine bt_e1 ?_
            refine eff_s rfl rfl rfl (opE_pure (w_aidx 0 rfl Try.underlying24 Try.sizeOf43 (ev_tmp rfl) rfl (ev_tmp rfl) (by first | omega | ((try simp only [List.length_map, List.length_take, List.length_cons, List.length_nil, chunks_len, szR] at *); omega) | (have hc2 := hc; simp only [Bool.and_eq_true, Bool.or_eq_true, Bool.or_eq_false_iff, Bool.and_eq_false_iff, Bool.not_eq_true', Bool.not_eq_false', decide_eq_true_eq, decide_eq_false_iff_not, beq_iff_eq, bne_iff_ne, List.length_map, List.length_take] at hc2; omega)) (by first | omega | ((try simp only [List.length_map, List.length_take, List.length_cons, List.length_nil, chunks_len, szR] at *); omega) | (have hc2 := hc; simp only [Bool.and_eq_true, Bool.or_eq_true, Bool.or_eq_false_iff, Bool.and_eq_false_iff, Bool.not_eq_true', Bool.not_eq_false', decide_eq_true_eq, decide_eq_false_iff_not, beq_iff_eq, bne_iff_ne, List.length_map, List.length_take] at hc2; omega)))) (fun a _ => (by first | exact invx_mk rfl | exact invx_mk (List.append_assoc _ _ _) | exact invx_all)) ?_
            intro _ _
            refine bt_e1 ?_
            refine eff_s0 rfl rfl rfl (opE_storeA 0 rfl rfl (ev_tmp rfl) (ev_tmp rfl) (as_agg _) rfl Try.sizeOf43 rfl (by first | omega | ((try simp only [List.length_map, List.length_take, List.length_cons, List.length_nil, chunks_len, szR] at *); omega) | (have hc2 := hc; simp only [Bool.and_eq_true, Bool.or_eq_true, Bool.or_eq_false_iff, Bool.and_eq_false_iff, Bool.not_eq_true', Bool.not_eq_false', decide_eq_true_eq, decide_eq_false_iff_not, beq_iff_eq, bne_iff_ne, List.length_map, List.length_take] at hc2; omega))) (fun a _ => (by first | exact invx_mk rfl | exact invx_mk (List.append_assoc _ _ _) | exact invx_all)) ?_
            intro _ _
            refine bt_e1 ?_
            refine eff_s rfl rfl rfl (opE_pure (w_aidx 0 rfl Try.underlying24 Try.sizeOf43 (ev_tmp rfl) rfl (ev_tmp rfl) (by omega) (by rw [List.length_set, List.length_map]; omega))) (fun a _ => (by first | exact invx_mk rfl | exact invx_mk (List.append_assoc _ _ _) | exact invx_all)) ?_
            intro _ _
            refine bt_nil ?_
            refine sq_storeA 0 rfl rfl rfl (ev_tmp rfl) (ev_tmp rfl) (as_agg _) rfl Try.sizeOf43 rfl (by simp only [List.length_set, List.length_map]; omega) ?_
            refine sq_nil ?_
            refine awp_region ?_
            refine sq_plain rfl rfl rfl (w_move rfl (ev_tmp rfl)) ?_
            refine sq_plain rfl rfl rfl (w_addi rfl (ev_tmp rfl) ev_ci (by first | omega | ((try simp only [List.length_map, List.length_take, List.length_cons, List.length_nil, chunks_len, szR] at *); omega) | (have hc2 := hc; simp only [Bool.and_eq_true, Bool.or_eq_true, Bool.or_eq_false_iff, Bool.and_eq_false_iff, Bool.not_eq_true', Bool.not_eq_false', decide_eq_true_eq, decide_eq_false_iff_not, beq_iff_eq, bne_iff_ne, List.length_map, List.length_take] at hc2; omega))) ?_
            refine sq_plain rfl rfl rfl (w_assign rfl (ev_tmp rfl)) ?_
            refine sq_nil ?_
            refine round_end k (k + 1) ?_ ?_ (le_eq (by (rw [show ((k : Int) + 1).toNat = k + 1 by omega, Int.toNat_natCast]; exact congrArg (fun z => [Own.arr v 43 5 z]) (by rw [← List.map_set, ← List.map_set, swp_eq hx1 hy1, upR_next l (by omega)]))) ⟨rfl, rfl, rfl, rfl, rfl, rfl, rfl, trivial⟩)
            · omega
            · omega
          · refine eff_s rfl rfl rfl (opE_pure (w_aidx 0 rfl Try.underlying24 Try.sizeOf43 (ev_tmp rfl) rfl (ev_tmp rfl) (by first | omega | ((try simp only [List.length_map, List.length_take, List.length_cons, List.length_nil, chunks_len, szR] at *); omega) | (have hc2 := hc; simp only [Bool.and_eq_true, Bool.or_eq_true, Bool.or_eq_false_iff, Bool.and_eq_false_iff, Bool.not_eq_true', Bool.not_eq_false', decide_eq_true_eq, decide_eq_false_iff_not, beq_iff_eq, bne_iff_ne, List.length_map, List.length_take] at hc2; omega)) (by first | omega | ((try simp only [List.length_map, List.length_take, List.length_cons, List.length_nil, chunks_len, szR] at *); omega) | (have hc2 := hc; simp only [Bool.and_eq_true, Bool.or_eq_true, Bool.or_eq_false_iff, Bool.and_eq_false_iff, Bool.not_eq_true', Bool.not_eq_false', decide_eq_true_eq, decide_eq_false_iff_not, beq_iff_eq, bne_iff_ne, List.length_map, List.length_take] at hc2; omega)))) (fun a _ => (by first | exact invx_mk rfl | exact invx_mk (List.append_assoc _ _ _) | exact invx_all)) ?_
            intro _ _
            refine bt_e2 ?_ ?_
            · refine eff_s rfl rfl rfl (opE_pure (w_loadX 0 rfl (ev_tmp rfl) rfl Try.isAgg43 Try.sizeOf43 (by rw [show ((k : Int) + 1).toNat = k + 1 by omega, List.getElem?_map, hy1]; rfl) (by decide))) (fun a _ => (by first | exact invx_mk rfl | exact invx_mk (List.append_assoc _ _ _) | exact invx_all)) ?_
              intro _ _
              refine bt_e1 ?_
              refine eff_s rfl rfl rfl (opE_pure (w_loadX 0 rfl (ev_tmp rfl) rfl Try.isAgg43 Try.sizeOf43 (by rw [Int.toNat_natCast, List.getElem?_map, hx1]; rfl) (by decide))) (fun a _ => (by first | exact invx_mk rfl | exact invx_mk (List.append_assoc _ _ _) | exact invx_all)) ?_
              intro _ _
              refine bt_e1 ?_
              refine eff_s rfl rfl rfl (opE_pure (w_aidx 0 rfl Try.underlying24 Try.sizeOf43 (ev_tmp rfl) rfl (ev_tmp rfl) (by first | omega | ((try simp only [List.length_map, List.length_take, List.length_cons, List.length_nil, chunks_len, szR] at *); omega) | (have hc2 := hc; simp only [Bool.and_eq_true, Bool.or_eq_true, Bool.or_eq_false_iff, Bool.and_eq_false_iff, Bool.not_eq_true', Bool.not_eq_false', decide_eq_true_eq, decide_eq_false_iff_not, beq_iff_eq, bne_iff_ne, List.length_map, List.length_take] at hc2; omega)) (by first | omega | ((try simp only [List.length_map, List.length_take, List.length_cons, List.length_nil, chunks_len, szR] at *); omega) | (have hc2 := hc; simp only [Bool.and_eq_true, Bool.or_eq_true, Bool.or_eq_false_iff, Bool.and_eq_false_iff, Bool.not_eq_true', Bool.not_eq_false', decide_eq_true_eq, decide_eq_false_iff_not, beq_iff_eq, bne_iff_ne, List.length_map, List.length_take] at hc2; omega)))) (fun a _ => (by first | exact invx_mk rfl | exact invx_mk (List.append_assoc _ _ _) | exact invx_all)) ?_
              intro _ _
              refine bt_e1 ?_
              refine eff_s0 rfl rfl rfl (opE_storeA 0 rfl rfl (ev_tmp rfl) (ev_tmp rfl) (as_agg _) rfl Try.sizeOf43 rfl (by first | omega | ((try simp only [List.length_map, List.length_take, List.length_cons, List.length_nil, chunks_len, szR] at *); omega) | (have hc2 := hc; simp only [Bool.and_eq_true, Bool.or_eq_true, Bool.or_eq_false_iff, Bool.and_eq_false_iff, Bool.not_eq_true', Bool.not_eq_false', decide_eq_true_eq, decide_eq_false_iff_not, beq_iff_eq, bne_iff_ne, List.length_map, List.length_take] at hc2; omega))) (fun a _ => (by first | exact invx_mk rfl | exact invx_mk (List.append_assoc _ _ _) | exact invx_all)) ?_
              intro _ _
              refine bt_e1 ?_
              refine eff_s rfl rfl rfl (opE_pure (w_aidx 0 rfl Try.underlying24 Try.sizeOf43 (ev_tmp rfl) rfl (ev_tmp rfl) (by omega) (by rw [List.length_set, List.length_map]; omega))) (fun a _ => (by first | exact invx_mk rfl | exact invx_mk (List.append_assoc _ _ _) | exact invx_all)) ?_
              intro _ _
              refine bt_nil ?_
              refine sq_storeA 0 rfl rfl rfl (ev_tmp rfl) (ev_tmp rfl) (as_agg _) rfl Try.sizeOf43 rfl (by simp only [List.length_set, List.length_map]; omega) ?_
              refine sq_nil ?_
              refine awp_region ?_
              refine sq_plain rfl rfl rfl (w_move rfl (ev_tmp rfl)) ?_
              refine sq_plain rfl rfl rfl (w_addi rfl (ev_tmp rfl) ev_ci (by first | omega | ((try simp only [List.length_map, List.length_take, List.length_cons, List.length_nil, chunks_len, szR] at *); omega) | (have hc2 := hc; simp only [Bool.and_eq_true, Bool.or_eq_true, Bool.or_eq_false_iff, Bool.and_eq_false_iff, Bool.not_eq_true', Bool.not_eq_false', decide_eq_true_eq, decide_eq_false_iff_not, beq_iff_eq, bne_iff_ne, List.length_map, List.length_take] at hc2; omega))) ?_
              refine sq_plain rfl rfl rfl (w_assign rfl (ev_tmp rfl)) ?_
              refine sq_nil ?_
              refine round_end k (k + 1) ?_ ?_ (le_eq (by (rw [show ((k : Int) + 1).toNat = k + 1 by omega, Int.toNat_natCast]; exact congrArg (fun z => [Own.arr v 43 5 z]) (by rw [← List.map_set, ← List.map_set, swp_eq hx1 hy1, upR_next l (by omega)]))) ⟨rfl, rfl, rfl, rfl, rfl, rfl, rfl, trivial⟩)
              · omega
              · omega
            · refine eff_s rfl rfl rfl (opE_pure (w_loadX 0 rfl (ev_tmp rfl) rfl Try.isAgg43 Try.sizeOf43 (by rw [Int.toNat_natCast, List.getElem?_map, hx1]; rfl) (by decide))) (fun a _ => (by first | exact invx_mk rfl | exact invx_mk (List.append_assoc _ _ _) | exact invx_all)) ?_
              intro _ _
              refine bt_e1 ?_
              refine eff_s rfl rfl rfl (opE_pure (w_loadX 0 rfl (ev_tmp rfl) rfl Try.isAgg43 Try.sizeOf43 (by rw [show ((k : Int) + 1).toNat = k + 1 by omega, List.getElem?_map, hy1]; rfl) (by decide))) (fun a _ => (by first | exact invx_mk rfl | exact invx_mk (List.append_assoc _ _ _) | exact invx_all)) ?_
              intro _ _
              refine bt_e1 ?_
              refine eff_s rfl rfl rfl (opE_pure (w_aidx 0 rfl Try.underlying24 Try.sizeOf43 (ev_tmp rfl) rfl (ev_tmp rfl) (by first | omega | ((try simp only [List.length_map, List.length_take, List.length_cons, List.length_nil, chunks_len, szR] at *); omega) | (have hc2 := hc; simp only [Bool.and_eq_true, Bool.or_eq_true, Bool.or_eq_false_iff, Bool.and_eq_false_iff, Bool.not_eq_true', Bool.not_eq_false', decide_eq_true_eq, decide_eq_false_iff_not, beq_iff_eq, bne_iff_ne, List.length_map, List.length_take] at hc2; omega)) (by first | omega | ((try simp only [List.length_map, List.length_take, List.length_cons, List.length_nil, chunks_len, szR] at *); omega) | (have hc2 := hc; simp only [Bool.and_eq_true, Bool.or_eq_true, Bool.or_eq_false_iff, Bool.and_eq_false_iff, Bool.not_eq_true', Bool.not_eq_false', decide_eq_true_eq, decide_eq_false_iff_not, beq_iff_eq, bne_iff_ne, List.length_map, List.length_take] at hc2; omega)))) (fun a _ => (by first | exact invx_mk rfl | exact invx_mk (List.append_assoc _ _ _) | exact invx_all)) ?_
              intro _ _
              refine bt_e1 ?_
              refine eff_s0 rfl rfl rfl (opE_storeA 0 rfl rfl (ev_tmp rfl) (ev_tmp rfl) (as_agg _) rfl Try.sizeOf43 rfl (by first | omega | ((try simp only [List.length_map, List.length_take, List.length_cons, List.length_nil, chunks_len, szR] at *); omega) | (have hc2 := hc; simp only [Bool.and_eq_true, Bool.or_eq_true, Bool.or_eq_false_iff, Bool.and_eq_false_iff, Bool.not_eq_true', Bool.not_eq_false', decide_eq_true_eq, decide_eq_false_iff_not, beq_iff_eq, bne_iff_ne, List.length_map, List.length_take] at hc2; omega))) (fun a _ => (by first | exact invx_mk rfl | exact invx_mk (List.append_assoc _ _ _) | exact invx_all)) ?_
              intro _ _
              refine bt_e1 ?_
              refine eff_s rfl rfl rfl (opE_pure (w_aidx 0 rfl Try.underlying24 Try.sizeOf43 (ev_tmp rfl) rfl (ev_tmp rfl) (by omega) (by rw [List.length_set, List.length_map]; omega))) (fun a _ => (by first | exact invx_mk rfl | exact invx_mk (List.append_assoc _ _ _) | exact invx_all)) ?_
              intro _ _
              refine bt_nil ?_
              refine sq_storeA 0 rfl rfl rfl (ev_tmp rfl) (ev_tmp rfl) (as_agg _) rfl Try.sizeOf43 rfl (by simp only [List.length_set, List.length_map]; omega) ?_
              refine sq_nil ?_
              refine awp_region ?_
              refine sq_plain rfl rfl rfl (w_move rfl (ev_tmp rfl)) ?_
              refine sq_plain rfl rfl rfl (w_addi rfl (ev_tmp rfl) ev_ci (by first | omega | ((try simp only [List.length_map, List.length_take, List.length_cons, List.length_nil, chunks_len, szR] at *); omega) | (have hc2 := hc; simp only [Bool.and_eq_true, Bool.or_eq_true, Bool.or_eq_false_iff, Bool.and_eq_false_iff, Bool.not_eq_true', Bool.not_eq_false', decide_eq_true_eq, decide_eq_false_iff_not, beq_iff_eq, bne_iff_ne, List.length_map, List.length_take] at hc2; omega))) ?_
              refine sq_plain rfl rfl rfl (w_assign rfl (ev_tmp rfl)) ?_
              refine sq_nil ?_
              refine round_end k (k + 1) ?_ ?_ (le_eq (by (rw [show ((k : Int) + 1).toNat = k + 1 by omega, Int.toNat_natCast]; exact congrArg (fun z => [Own.arr v 43 5 z]) (by rw [← List.map_set, ← List.map_set, swp_eq hx1 hy1, upR_next l (by omega)]))) ⟨rfl, rfl, rfl, rfl, rfl, rfl, rfl, trivial⟩)
              · omega
              · omega
        · refine eff_s rfl rfl rfl (opE_pure (w_aidx 0 rfl Try.underlying24 Try.sizeOf43 (ev_tmp rfl) rfl (ev_tmp rfl) (by first | omega | ((try simp only [List.length_map, List.length_take, List.length_cons, List.length_nil, chunks_len, szR] at *); omega) | (have hc2 := hc; simp only [Bool.and_eq_true, Bool.or_eq_true, Bool.or_eq_false_iff, Bool.and_eq_false_iff, Bool.not_eq_true', Bool.not_eq_false', decide_eq_true_eq, decide_eq_false_iff_not, beq_iff_eq, bne_iff_ne, List.length_map, List.length_take] at hc2; omega)) (by first | omega | ((try simp only [List.length_map, List.length_take, List.length_cons, List.length_nil, chunks_len, szR] at *); omega) | (have hc2 := hc; simp only [Bool.and_eq_true, Bool.or_eq_true, Bool.or_eq_false_iff, Bool.and_eq_false_iff, Bool.not_eq_true', Bool.not_eq_false', decide_eq_true_eq, decide_eq_false_iff_not, beq_iff_eq, bne_iff_ne, List.length_map, List.length_take] at hc2; omega)))) (fun a _ => (by first | exact invx_mk rfl | exact invx_mk (List.append_assoc _ _ _) | exact invx_all)) ?_
          intro _ _
          refine bt_e2 ?_ ?_
          · refine eff_s rfl rfl rfl (opE_pure (w_aidx 0 rfl Try.underlying24 Try.sizeOf43 (ev_tmp rfl) rfl (ev_tmp rfl) (by first | omega | ((try simp only [List.length_map, List.length_take, List.length_cons, List.length_nil, chunks_len, szR] at *); omega) | (have hc2 := hc; simp only [Bool.and_eq_true, Bool.or_eq_true, Bool.or_eq_false_iff, Bool.and_eq_false_iff, Bool.not_eq_true', Bool.not_eq_false', decide_eq_true_eq, decide_eq_false_iff_not, beq_iff_eq, bne_iff_ne, List.length_map, List.length_take] at hc2; omega)) (by first | omega | ((try simp only [List.length_map, List.length_take, List.length_cons, List.length_nil, chunks_len, szR] at *); omega) | (have hc2 := hc; simp only [Bool.and_eq_true, Bool.or_eq_true, Bool.or_eq_false_iff, Bool.and_eq_false_iff, Bool.not_eq_true', Bool.not_eq_false', decide_eq_true_eq, decide_eq_false_iff_not, beq_iff_eq, bne_iff_ne, List.length_map, List.length_take] at hc2; omega)))) (fun a _ => (by first | exact invx_mk rfl | exact invx_mk (List.append_assoc _ _ _) | exact invx_all)) ?_
            intro _ _
            refine bt_e2 ?_ ?_
            · refine eff_s rfl rfl rfl (opE_pure (w_loadX 0 rfl (ev_tmp rfl) rfl Try.isAgg43 Try.sizeOf43 (by rw [show ((k : Int) + 1).toNat = k + 1 by omega, List.getElem?_map, hy1]; rfl) (by decide))) (fun a _ => (by first | exact invx_mk rfl | exact invx_mk (List.append_assoc _ _ _) | exact invx_all)) ?_
              intro _ _
              refine bt_e1 ?_
              refine eff_s rfl rfl rfl (opE_pure (w_loadX 0 rfl (ev_tmp rfl) rfl Try.isAgg43 Try.sizeOf43 (by rw [Int.toNat_natCast, List.getElem?_map, hx1]; rfl) (by decide))) (fun a _ => (by first | exact invx_mk rfl | exact invx_mk (List.append_assoc _ _ _) | exact invx_all)) ?_
              intro _ _
              refine bt_e1 ?_
              refine eff_s rfl rfl rfl (opE_pure (w_aidx 0 rfl Try.underlying24 Try.sizeOf43 (ev_tmp rfl) rfl (ev_tmp rfl) (by first | omega | ((try simp only [List.length_map, List.length_take, List.length_cons, List.length_nil, chunks_len, szR] at *); omega) | (have hc2 := hc; simp only [Bool.and_eq_true, Bool.or_eq_true, Bool.or_eq_false_iff, Bool.and_eq_false_iff, Bool.not_eq_true', Bool.not_eq_false', decide_eq_true_eq, decide_eq_false_iff_not, beq_iff_eq, bne_iff_ne, List.length_map, List.length_take] at hc2; omega)) (by first | omega | ((try simp only [List.length_map, List.length_take, List.length_cons, List.length_nil, chunks_len, szR] at *); omega) | (have hc2 := hc; simp only [Bool.and_eq_true, Bool.or_eq_true, Bool.or_eq_false_iff, Bool.and_eq_false_iff, Bool.not_eq_true', Bool.not_eq_false', decide_eq_true_eq, decide_eq_false_iff_not, beq_iff_eq, bne_iff_ne, List.length_map, List.length_take] at hc2; omega)))) (fun a _ => (by first | exact invx_mk rfl | exact invx_mk (List.append_assoc _ _ _) | exact invx_all)) ?_
              intro _ _
              refine bt_e1 ?_
              refine eff_s0 rfl rfl rfl (opE_storeA 0 rfl rfl (ev_tmp rfl) (ev_tmp rfl) (as_agg _) rfl Try.sizeOf43 rfl (by first | omega | ((try simp only [List.length_map, List.length_take, List.length_cons, List.length_nil, chunks_len, szR] at *); omega) | (have hc2 := hc; simp only [Bool.and_eq_true, Bool.or_eq_true, Bool.or_eq_false_iff, Bool.and_eq_false_iff, Bool.not_eq_true', Bool.not_eq_false', decide_eq_true_eq, decide_eq_false_iff_not, beq_iff_eq, bne_iff_ne, List.length_map, List.length_take] at hc2; omega))) (fun a _ => (by first | exact invx_mk rfl | exact invx_mk (List.append_assoc _ _ _) | exact invx_all)) ?_
              intro _ _
              refine bt_e1 ?_
              refine eff_s rfl rfl rfl (opE_pure (w_aidx 0 rfl Try.underlying24 Try.sizeOf43 (ev_tmp rfl) rfl (ev_tmp rfl) (by omega) (by rw [List.length_set, List.length_map]; omega))) (fun a _ => (by first | exact invx_mk rfl | exact invx_mk (List.append_assoc _ _ _) | exact invx_all)) ?_
              intro _ _
              refine bt_nil ?_
              refine sq_storeA 0 rfl rfl rfl (ev_tmp rfl) (ev_tmp rfl) (as_agg _) rfl Try.sizeOf43 rfl (by simp only [List.length_set, List.length_map]; omega) ?_
              refine sq_nil ?_
              refine awp_region ?_
              refine sq_plain rfl rfl rfl (w_move rfl (ev_tmp rfl)) ?_
              refine sq_plain rfl rfl rfl (w_addi rfl (ev_tmp rfl) ev_ci (by first | omega | ((try simp only [List.length_map, List.length_take, List.length_cons, List.length_nil, chunks_len, szR] at *); omega) | (have hc2 := hc; simp only [Bool.and_eq_true, Bool.or_eq_true, Bool.or_eq_false_iff, Bool.and_eq_false_iff, Bool.not_eq_true', Bool.not_eq_false', decide_eq_true_eq, decide_eq_false_iff_not, beq_iff_eq, bne_iff_ne, List.length_map, List.length_take] at hc2; omega))) ?_
              refine sq_plain rfl rfl rfl (w_assign rfl (ev_tmp rfl)) ?_
              refine sq_nil ?_
              refine round_end k (k + 1) ?_ ?_ (le_eq (by (rw [show ((k : Int) + 1).toNat = k + 1 by omega, Int.toNat_natCast]; exact congrArg (fun z => [Own.arr v 43 5 z]) (by rw [← List.map_set, ← List.map_set, swp_eq hx1 hy1, upR_next l (by omega)]))) ⟨rfl, rfl, rfl, rfl, rfl, rfl, rfl, trivial⟩)
              · omega
              · omega
            · refine eff_s rfl rfl rfl (opE_pure (w_loadX 0 rfl (ev_tmp rfl) rfl Try.isAgg43 Try.sizeOf43 (by rw [Int.toNat_natCast, List.getElem?_map, hx1]; rfl) (by decide))) (fun a _ => (by first | exact invx_mk rfl | exact invx_mk (List.append_assoc _ _ _) | exact invx_all)) ?_
              intro _ _
              refine bt_e1 ?_
              refine eff_s rfl rfl rfl (opE_pure (w_loadX 0 rfl (ev_tmp rfl) rfl Try.isAgg43 Try.sizeOf43 (by rw [show ((k : Int) + 1).toNat = k + 1 by omega, List.getElem?_map, hy1]; rfl) (by decide))) (fun a _ => (by first | exact invx_mk rfl | exact invx_mk (List.append_assoc _ _ _) | exact invx_all)) ?_
              intro _ _
              refine bt_e1 ?_
              refine eff_s rfl rfl rfl (opE_pure (w_aidx 0 rfl Try.underlying24 Try.sizeOf43 (ev_tmp rfl) rfl (ev_tmp rfl) (by first | omega | ((try simp only [List.length_map, List.length_take, List.length_cons, List.length_nil, chunks_len, szR] at *); omega) | (have hc2 := hc; simp only [Bool.and_eq_true, Bool.or_eq_true, Bool.or_eq_false_iff, Bool.and_eq_false_iff, Bool.not_eq_true', Bool.not_eq_false', decide_eq_true_eq, decide_eq_false_iff_not, beq_iff_eq, bne_iff_ne, List.length_map, List.length_take] at hc2; omega)) (by first | omega | ((try simp only [List.length_map, List.length_take, List.length_cons, List.length_nil, chunks_len, szR] at *); omega) | (have hc2 := hc; simp only [Bool.and_eq_true, Bool.or_eq_true, Bool.or_eq_false_iff, Bool.and_eq_false_iff, Bool.not_eq_true', Bool.not_eq_false', decide_eq_true_eq, decide_eq_false_iff_not, beq_iff_eq, bne_iff_ne, List.length_map, List.length_take] at hc2; omega)))) (fun a _ => (by first | exact invx_mk rfl | exact invx_mk (List.append_assoc _ _ _) | exact invx_all)) ?_
              intro _ _
              refine bt_e1 ?_
              refine eff_s0 rfl rfl rfl (opE_storeA 0 rfl rfl (ev_tmp rfl) (ev_tmp rfl) (as_agg _) rfl Try.sizeOf43 rfl (by first | omega | ((try simp only [List.length_map, List.length_take, List.length_cons, List.length_nil, chunks_len, szR] at *); omega) | (have hc2 := hc; simp only [Bool.and_eq_true, Bool.or_eq_true, Bool.or_eq_false_iff, Bool.and_eq_false_iff, Bool.not_eq_true', Bool.not_eq_false', decide_eq_true_eq, decide_eq_false_iff_not, beq_iff_eq, bne_iff_ne, List.length_map, List.length_take] at hc2; omega))) (fun a _ => (by first | exact invx_mk rfl | exact invx_mk (List.append_assoc _ _ _) | exact invx_all)) ?_
              intro _ _
              refine bt_e1 ?_
              refine eff_s rfl rfl rfl (opE_pure (w_aidx 0 rfl Try.underlying24 Try.sizeOf43 (ev_tmp rfl) rfl (ev_tmp rfl) (by omega) (by rw [List.length_set, List.length_map]; omega))) (fun a _ => (by first | exact invx_mk rfl | exact invx_mk (List.append_assoc _ _ _) | exact invx_all)) ?_
              intro _ _
              refine bt_nil ?_
              refine sq_storeA 0 rfl rfl rfl (ev_tmp rfl) (ev_tmp rfl) (as_agg _) rfl Try.sizeOf43 rfl (by simp only [List.length_set, List.length_map]; omega) ?_
              refine sq_nil ?_
              refine awp_region ?_
              refine sq_plain rfl rfl rfl (w_move rfl (ev_tmp rfl)) ?_
              refine sq_plain rfl rfl rfl (w_addi rfl (ev_tmp rfl) ev_ci (by first | omega | ((try simp only [List.length_map, List.length_take, List.length_cons, List.length_nil, chunks_len, szR] at *); omega) | (have hc2 := hc; simp only [Bool.and_eq_true, Bool.or_eq_true, Bool.or_eq_false_iff, Bool.and_eq_false_iff, Bool.not_eq_true', Bool.not_eq_false', decide_eq_true_eq, decide_eq_false_iff_not, beq_iff_eq, bne_iff_ne, List.length_map, List.length_take] at hc2; omega))) ?_
              refine sq_plain rfl rfl rfl (w_assign rfl (ev_tmp rfl)) ?_
              refine sq_nil ?_
              refine round_end k (k + 1) ?_ ?_ (le_eq (by (rw [show ((k : Int) + 1).toNat = k + 1 by omega, Int.toNat_natCast]; exact congrArg (fun z => [Own.arr v 43 5 z]) (by rw [← List.map_set, ← List.map_set, swp_eq hx1 hy1, upR_next l (by omega)]))) ⟨rfl, rfl, rfl, rfl, rfl, rfl, rfl, trivial⟩)
              · omega
              · omega
          · refine eff_s rfl rfl rfl (opE_pure (w_loadX 0 rfl (ev_tmp rfl) rfl Try.isAgg43 Try.sizeOf43 (by rw [Int.toNat_natCast, List.getElem?_map, hx1]; rfl) (by decide))) (fun a _ => (by first | exact invx_mk rfl | exact invx_mk (List.append_assoc _ _ _) | exact invx_all)) ?_
            intro _ _
            refine bt_e1 ?_
            refine eff_s rfl rfl rfl (opE_pure (w_aidx 0 rfl Try.underlying24 Try.sizeOf43 (ev_tmp rfl) rfl (ev_tmp rfl) (by first | omega | ((try simp only [List.length_map, List.length_take, List.length_cons, List.length_nil, chunks_len, szR] at *); omega) | (have hc2 := hc; simp only [Bool.and_eq_true, Bool.or_eq_true, Bool.or_eq_false_iff, Bool.and_eq_false_iff, Bool.not_eq_true', Bool.not_eq_false', decide_eq_true_eq, decide_eq_false_iff_not, beq_iff_eq, bne_iff_ne, List.length_map, List.length_take] at hc2; omega)) (by first | omega | ((try simp only [List.length_map, List.length_take, List.length_cons, List.length_nil, chunks_len, szR] at *); omega) | (have hc2 := hc; simp only [Bool.and_eq_true, Bool.or_eq_true, Bool.or_eq_false_iff, Bool.and_eq_false_iff, Bool.not_eq_true', Bool.not_eq_false', decide_eq_true_eq, decide_eq_false_iff_not, beq_iff_eq, bne_iff_ne, List.length_map, List.length_take] at hc2; omega)))) (fun a _ => (by first | exact invx_mk rfl | exact invx_mk (List.append_assoc _ _ _) | exact invx_all)) ?_
            intro _ _
            refine bt_e1 ?_
            refine eff_s rfl rfl rfl (opE_pure (w_loadX 0 rfl (ev_tmp rfl) rfl Try.isAgg43 Try.sizeOf43 (by rw [show ((k : Int) + 1).toNat = k + 1 by omega, List.getElem?_map, hy1]; rfl) (by decide))) (fun a _ => (by first | exact invx_mk rfl | exact invx_mk (List.append_assoc _ _ _) | exact invx_all)) ?_
            intro _ _
            refine bt_e1 ?_
            refine eff_s rfl rfl rfl (opE_pure (w_aidx 0 rfl Try.underlying24 Try.sizeOf43 (ev_tmp rfl) rfl (ev_tmp rfl) (by first | omega | ((try simp only [List.length_map, List.length_take, List.length_cons, List.length_nil, chunks_len, szR] at *); omega) | (have hc2 := hc; simp only [Bool.and_eq_true, Bool.or_eq_true, Bool.or_eq_false_iff, Bool.and_eq_false_iff, Bool.not_eq_true', Bool.not_eq_false', decide_eq_true_eq, decide_eq_false_iff_not, beq_iff_eq, bne_iff_ne, List.length_map, List.length_take] at hc2; omega)) (by first | omega | ((try simp only [List.length_map, List.length_take, List.length_cons, List.length_nil, chunks_len, szR] at *); omega) | (have hc2 := hc; simp only [Bool.and_eq_true, Bool.or_eq_true, Bool.or_eq_false_iff, Bool.and_eq_false_iff, Bool.not_eq_true', Bool.not_eq_false', decide_eq_true_eq, decide_eq_false_iff_not, beq_iff_eq, bne_iff_ne, List.length_map, List.length_take] at hc2; omega)))) (fun a _ => (by first | exact invx_mk rfl | exact invx_mk (List.append_assoc _ _ _) | exact invx_all)) ?_
            intro _ _
            refine bt_e1 ?_
            refine eff_s0 rfl rfl rfl (opE_storeA 0 rfl rfl (ev_tmp rfl) (ev_tmp rfl) (as_agg _) rfl Try.sizeOf43 rfl (by first | omega | ((try simp only [List.length_map, List.length_take, List.length_cons, List.length_nil, chunks_len, szR] at *); omega) | (have hc2 := hc; simp only [Bool.and_eq_true, Bool.or_eq_true, Bool.or_eq_false_iff, Bool.and_eq_false_iff, Bool.not_eq_true', Bool.not_eq_false', decide_eq_true_eq, decide_eq_false_iff_not, beq_iff_eq, bne_iff_ne, List.length_map, List.length_take] at hc2; omega))) (fun a _ => (by first | exact invx_mk rfl | exact invx_mk (List.append_assoc _ _ _) | exact invx_all)) ?_
            intro _ _
            refine bt_e1 ?_
            refine eff_s rfl rfl rfl (opE_pure (w_aidx 0 rfl Try.underlying24 Try.sizeOf43 (ev_tmp rfl) rfl (ev_tmp rfl) (by omega) (by rw [List.length_set, List.length_map]; omega))) (fun a _ => (by first | exact invx_mk rfl | exact invx_mk (List.append_assoc _ _ _) | exact invx_all)) ?_
            intro _ _
            refine bt_nil ?_
            refine sq_storeA 0 rfl rfl rfl (ev_tmp rfl) (ev_tmp rfl) (as_agg _) rfl Try.sizeOf43 rfl (by simp only [List.length_set, List.length_map]; omega) ?_
            refine sq_nil ?_
            refine awp_region ?_
            refine sq_plain rfl rfl rfl (w_move rfl (ev_tmp rfl)) ?_
            refine sq_plain rfl rfl rfl (w_addi rfl (ev_tmp rfl) ev_ci (by first | omega | ((try simp only [List.length_map, List.length_take, List.length_cons, List.length_nil, chunks_len, szR] at *); omega) | (have hc2 := hc; simp only [Bool.and_eq_true, Bool.or_eq_true, Bool.or_eq_false_iff, Bool.and_eq_false_iff, Bool.not_eq_true', Bool.not_eq_false', decide_eq_true_eq, decide_eq_false_iff_not, beq_iff_eq, bne_iff_ne, List.length_map, List.length_take] at hc2; omega))) ?_
            refine sq_plain rfl rfl rfl (w_assign rfl (ev_tmp rfl)) ?_
            refine sq_nil ?_
            refine round_end k (k + 1) ?_ ?_ (le_eq (by (rw [show ((k : Int) + 1).toNat = k + 1 by omega, Int.toNat_natCast]; exact congrArg (fun z => [Own.arr v 43 5 z]) (by rw [← List.map_set, ← List.map_set, swp_eq hx1 hy1, upR_next l (by omega)]))) ⟨rfl, rfl, rfl, rfl, rfl, rfl, rfl, trivial⟩)
            · omega
            · omega
      · intro h58
        have k58 := of_decide_eq_false h58; try simp only [List.length_map] at k58
        have hkj : k = j - 1 := by omega
        subst hkj
        refine awp_exit ?_
        refine awp_ret ?_
        first | exact retG [0] (upR l a (j - 1 - a)) (⟨shuf_upR (by omega) (Nat.le_refl _) (by omega), by have h9 := sorted_up hs (l := l) (a := a) (q := j) (b := b) (by omega) (by omega) hb (by rw [← ham1]; exact s2) hinv0.2.1 (by rw [← ham1]; exact hinv0.2.2); rw [show j - (a + 1) = j - 1 - a by omega] at h9; exact h9⟩) rfl (by rfl) (resN rfl (by decide) rv_nil) | exact retG [0] (downR l m (m - k)) (⟨shuf_downR (by omega) (by omega) (by omega) (by omega), by rw [hbm1]; exact sorted_down hs (by omega) (by omega) (by omega) s1 hinv0.2.1 hinv0.2.2⟩) rfl (by rfl) (resN rfl (by decide) rv_nil) | exact retG [0] (x219) (⟨((ok191.1.wide (by omega) (by omega)).trans (ok205.1.wide (Nat.le_refl _) (by omega))).trans (ok219.1.wide (by omega) (Nat.le_refl _)), sorted_glue (ok219.1.sorted_out (.inl (Nat.le_refl _)) ok205.2) ok219.2 (ok219.1.cross2 (ok205.1.cross1 (by have h9 := rot_cross hs ok191.2 (by omega) (by omega) (by omega) (by omega) s1 s2 hc1 hc2; rw [hm1] at h9; exact h9)))⟩) rfl (by rfl) (resN rfl (by decide) rv_nil)
  · intro h28
    have k28 := ne_of_beqf h28; try simp only [List.length_map] at k28
    refine awp_skip ?_
    refine awp_seq ?_
    refine awp_seq ?_
    refine awp_region ?_
    refine sq_plain rfl rfl rfl (w_move rfl (ev_tmp rfl)) ?_
    refine sq_plain rfl rfl rfl (w_move rfl (ev_tmp rfl)) ?_
    refine sq_plain rfl rfl rfl (w_subi rfl (ev_tmp rfl) (ev_tmp rfl) (by first | omega | ((try simp only [List.length_map, List.length_take, List.length_cons, List.length_nil, chunks_len, szR] at *); omega) | (have hc2 := hc; simp only [Bool.and_eq_true, Bool.or_eq_true, Bool.or_eq_false_iff, Bool.and_eq_false_iff, Bool.not_eq_true', Bool.not_eq_false', decide_eq_true_eq, decide_eq_false_iff_not, beq_iff_eq, bne_iff_ne, List.length_map, List.length_take] at hc2; omega))) ?_
    refine sq_plain rfl rfl rfl (w_eql rfl (ev_tmp rfl) ev_ci) ?_
    refine sq_nil ?_
    refine awp_cond (ev_tmp rfl) ?_ ?_
    · intro h80
      have k80 := eq_of_beqt h80; try simp only [List.length_map] at k80
      have hbm1 : b = m + 1 := by omega
      refine awp_seq ?_
      refine awp_region ?_
      refine sq_plain rfl rfl rfl (w_move rfl (ev_tmp rfl)) ?_
      refine sq_plain rfl rfl rfl (w_assign rfl (ev_tmp rfl)) ?_
      refine sq_nil ?_
      refine awp_seq ?_
      refine awp_region ?_
      refine sq_plain rfl rfl rfl (w_move rfl (ev_tmp rfl)) ?_
      refine sq_plain rfl rfl rfl (w_assign rfl (ev_tmp rfl)) ?_
      refine sq_nil ?_
      refine awp_seq ?_
      refine awp_block ?_
      refine awp_loop_i2 [(0, _), (1, _), (2, _), (3, _), (4, _)] _ (fun (i : Nat) (j : Nat) => (a ≤ i ∧ i ≤ j ∧ j ≤ m) ∧ (i = a ∨ ∃ x y, l[i - 1]? = some x ∧ l[m]? = some y ∧ decide (f y x < 0) = false) ∧ (j = m ∨ ∃ x y, l[m]? = some x ∧ l[j]? = some y ∧ decide (f x y < 0) = true)) (fun (i : Nat) (j : Nat) => [.arr v 43 5 (l.map TFeedItem.cs)]) (fun (i : Nat) (j : Nat) => [(14, AV.int i), (15, AV.int j)]) (fun (i : Nat) (j : Nat) => j - i) (a) (m) ?_ (le_eq (by rfl) ⟨rfl, rfl, rfl, rfl, rfl, rfl, rfl, trivial⟩) ?_
      · exact ⟨by omega, .inl rfl, .inl rfl⟩
      intro i j hinv
      refine awp_seq ?_
      refine awp_seq ?_
      refine awp_region ?_
      refine sq_plain rfl rfl rfl (w_move rfl (ev_tmp rfl)) ?_
      refine sq_plain rfl rfl rfl (w_move rfl (ev_tmp rfl)) ?_
      refine sq_plain rfl rfl rfl (w_lss rfl (ev_tmp rfl) (ev_tmp rfl)) ?_
      refine sq_nil ?_
      refine awp_cond (ev_tmp rfl) ?_ ?_
      · intro h85
        have k85 := of_decide_eq_true h85; try simp only [List.length_map] at k85
        have hmid := mid_eq i j (by omega)
        obtain ⟨x, hx⟩ := get_some (show m < l.length by omega)
        obtain ⟨y, hy⟩ := get_some (show (i + j) / 2 < l.length by omega)
        refine awp_skip ?_
        refine awp_block ?_
        refine awp_seq ?_
        refine awp_region ?_
        refine sq_plain rfl rfl rfl (w_move rfl (ev_tmp rfl)) ?_
        refine sq_plain rfl rfl rfl (w_move rfl (ev_tmp rfl)) ?_
        refine sq_plain rfl rfl rfl (w_addi rfl (ev_tmp rfl) (ev_tmp rfl) (by first | omega | ((try simp only [List.length_map, List.length_take, List.length_cons, List.length_nil, chunks_len, szR] at *); omega) | (have hc2 := hc; simp only [Bool.and_eq_true, Bool.or_eq_true, Bool.or_eq_false_iff, Bool.and_eq_false_iff, Bool.not_eq_true', Bool.not_eq_false', decide_eq_true_eq, decide_eq_false_iff_not, beq_iff_eq, bne_iff_ne, List.length_map, List.length_take] at hc2; omega))) ?_
        refine sq_plain rfl rfl rfl (w_conv rfl (by kernel_rfl) Try.underlying80 (ev_tmp rfl)) ?_
        refine sq_plain rfl rfl rfl (w_shr rfl (ev_tmp rfl) ev_ci (by decide) (by decide)) ?_
        refine sq_plain rfl rfl rfl (w_conv rfl (by kernel_rfl) Try.underlying3 (ev_tmp rfl)) ?_
        refine sq_plain rfl rfl rfl (w_assign rfl (ev_tmp rfl)) ?_
        refine sq_nil ?_
        refine awp_seq ?_
        refine awp_region_any (by kernel_rfl) (by kernel_rfl) rfl ?_
        refine ch_plain rfl rfl (w_move rfl (ev_tmp rfl)) ?_
        refine ch_plain rfl rfl (w_move rfl (ev_tmp rfl)) ?_
        refine ch_plain rfl rfl (w_move rfl (ev_tmp rfl)) ?_
        refine ch_plain rfl rfl (w_aidx 0 rfl Try.underlying24 Try.sizeOf43 (ev_tmp rfl) rfl (ev_tmp rfl) (by first | omega | ((try simp only [List.length_map, List.length_take, List.length_cons, List.length_nil, chunks_len, szR] at *); omega) | (have hc2 := hc; simp only [Bool.and_eq_true, Bool.or_eq_true, Bool.or_eq_false_iff, Bool.and_eq_false_iff, Bool.not_eq_true', Bool.not_eq_false', decide_eq_true_eq, decide_eq_false_iff_not, beq_iff_eq, bne_iff_ne, List.length_map, List.length_take] at hc2; omega)) (by first | omega | ((try simp only [List.length_map, List.length_take, List.length_cons, List.length_nil, chunks_len, szR] at *); omega) | (have hc2 := hc; simp only [Bool.and_eq_true, Bool.or_eq_true, Bool.or_eq_false_iff, Bool.and_eq_false_iff, Bool.not_eq_true', Bool.not_eq_false', decide_eq_true_eq, decide_eq_false_iff_not, beq_iff_eq, bne_iff_ne, List.length_map, List.length_take] at hc2; omega))) ?_
        refine ch_plain rfl rfl (w_loadX 0 rfl (ev_tmp rfl) rfl Try.isAgg43 Try.sizeOf43 (by rw [Int.toNat_natCast, List.getElem?_map, hx]; rfl) (by decide)) ?_
        refine ch_plain rfl rfl (w_move rfl (ev_tmp rfl)) ?_
        refine ch_plain rfl rfl (w_move rfl (ev_tmp rfl)) ?_
        refine ch_plain rfl rfl (w_aidx 0 rfl Try.underlying24 Try.sizeOf43 (ev_tmp rfl) rfl (ev_tmp rfl) (by first | omega | ((try simp only [List.length_map, List.length_take, List.length_cons, List.length_nil, chunks_len, szR] at *); omega) | (have hc2 := hc; simp only [Bool.and_eq_true, Bool.or_eq_true, Bool.or_eq_false_iff, Bool.and_eq_false_iff, Bool.not_eq_true', Bool.not_eq_false', decide_eq_true_eq, decide_eq_false_iff_not, beq_iff_eq, bne_iff_ne, List.length_map, List.length_take] at hc2; omega)) (by first | omega | ((try simp only [List.length_map, List.length_take, List.length_cons, List.length_nil, chunks_len, szR] at *); omega) | (have hc2 := hc; simp only [Bool.and_eq_true, Bool.or_eq_true, Bool.or_eq_false_iff, Bool.and_eq_false_iff, Bool.not_eq_true', Bool.not_eq_false', decide_eq_true_eq, decide_eq_false_iff_not, beq_iff_eq, bne_iff_ne, List.length_map, List.length_take] at hc2; omega))) ?_
        refine ch_plain rfl rfl (w_loadX 0 rfl (ev_tmp rfl) rfl Try.isAgg43 Try.sizeOf43 (by rw [hmid, Int.toNat_natCast, List.getElem?_map, hy]; rfl) (by decide)) ?_
        refine ch_plain rfl rfl (w_callv2 rfl (ev_tmp rfl) x y trivial (ev_tmp rfl) (ev_tmp rfl)) ?_
        refine ch_plain rfl rfl (w_lss rfl (ev_tmp rfl) ev_ci) ?_
        refine ch_plain rfl rfl (w_not rfl (ev_tmp rfl)) ?_
        refine ch_nil ?_
        refine awp_cond (ev_tmp rfl) ?_ ?_
        · intro h103
          refine awp_region ?_
          refine sq_plain rfl rfl rfl (w_move rfl (ev_tmp rfl)) ?_
          refine sq_plain rfl rfl rfl (w_addi rfl (ev_tmp rfl) ev_ci (by first | omega | ((try simp only [List.length_map, List.length_take, List.length_cons, List.length_nil, chunks_len, szR] at *); omega) | (have hc2 := hc; simp only [Bool.and_eq_true, Bool.or_eq_true, Bool.or_eq_false_iff, Bool.and_eq_false_iff, Bool.not_eq_true', Bool.not_eq_false', decide_eq_true_eq, decide_eq_false_iff_not, beq_iff_eq, bne_iff_ne, List.length_map, List.length_take] at hc2; omega))) ?_
          refine sq_plain rfl rfl rfl (w_assign rfl (ev_tmp rfl)) ?_
          refine sq_nil ?_
          refine blockN ?_
          refine round_end2 i j ((i + j) / 2 + 1) (j) ?_ ?_ (le_eq (by rfl) ⟨(by first | rfl | exact congrArg (fun z => some (AV.int z)) (by rw [hmid]; omega)), (by first | rfl | exact congrArg (fun z => some (AV.int z)) hmid), rfl, rfl, rfl, rfl, rfl, trivial⟩)
          · exact ⟨by omega, .inr ⟨y, x, by rw [Nat.add_sub_cancel]; exact hy, hx, by simpa using h103⟩, hinv.2.2⟩
          · omega
        · intro h103
          refine awp_region ?_
          refine sq_plain rfl rfl rfl (w_move rfl (ev_tmp rfl)) ?_
          refine sq_plain rfl rfl rfl (w_assign rfl (ev_tmp rfl)) ?_
          refine sq_nil ?_
          refine blockN ?_
          refine round_end2 i j (i) ((i + j) / 2) ?_ ?_ (le_eq (by rfl) ⟨(by first | rfl | exact congrArg (fun z => some (AV.int z)) (by rw [hmid]; omega)), (by first | rfl | exact congrArg (fun z => some (AV.int z)) hmid), rfl, rfl, rfl, rfl, rfl, trivial⟩)
          · exact ⟨by omega, hinv.2.1, .inr ⟨x, y, hx, hy, by simpa using h103⟩⟩
          · omega
      · intro h85
        have k85 := of_decide_eq_false h85; try simp only [List.length_map] at k85
        have hij : j = i := by omega
        subst hij
        have hinv0 := hinv
        refine awp_exit ?_
        refine awp_seq ?_
        refine awp_seq ?_
        refine awp_region ?_
        refine sq_plain rfl rfl rfl (w_move rfl (ev_tmp rfl)) ?_
        refine sq_plain rfl rfl rfl (w_assign rfl (ev_tmp rfl)) ?_
        refine sq_nil ?_
        refine awp_block ?_
        refine awp_loop_i [(0, _), (1, _), (2, _), (3, _), (4, _), (14, _)] _ (fun (k : Nat) => j ≤ k ∧ k ≤ m) (fun (k : Nat) => [.arr v 43 5 ((downR l m (m - k)).map TFeedItem.cs)]) (fun (k : Nat) => [(17, AV.int k)]) (fun (k : Nat) => k) (m) ?_ (le_eq (by (rw [Nat.sub_self]; rfl)) ⟨rfl, rfl, rfl, rfl, rfl, rfl, rfl, trivial⟩) ?_
        · omega
        intro k hinv
        have hdl := downR_len l m (m - k)
        refine awp_seq ?_
        refine awp_seq ?_
        refine awp_region ?_
        refine sq_plain rfl rfl rfl (w_move rfl (ev_tmp rfl)) ?_
        refine sq_plain rfl rfl rfl (w_move rfl (ev_tmp rfl)) ?_
        refine sq_plain rfl rfl rfl (w_gtr rfl (ev_tmp rfl) (ev_tmp rfl)) ?_
        refine sq_nil ?_
        refine awp_cond (ev_tmp rfl) ?_ ?_
        · intro h110
          have k110 := of_decide_eq_true h110; try simp only [List.length_map] at k110
          obtain ⟨x1, hx1⟩ := get_some (show k < (downR l m (m - k)).length by omega)
          obtain ⟨y1, hy1⟩ := get_some (show k - 1 < (downR l m (m - k)).length by omega)
          refine awp_skip ?_
          refine awp_seq ?_
          refine awp_block ?_
          refine awp_region_tree [] 17 (.pure 0 (.pure 1 (.pure 2 (.pure 3 (.pure 4 (.pure 5 (.pure 6 (.pure 7 (.pure 10 (.pure 11 (.e2 8 (.e2 9 (.e1 12 (.e1 13 (.e1 14 (.e1 15 (.e1 16 .nil))))) 12 (.e2 9 (.e1 13 (.e1 14 (.e1 15 (.e1 16 .nil)))) 13 (.e1 9 (.e1 14 (.e1 15 (.e1 16 .nil)))))) 12 (.e2 8 (.e2 9 (.e1 13 (.e1 14 (.e1 15 (.e1 16 .nil)))) 13 (.e1 9 (.e1 14 (.e1 15 (.e1 16 .nil))))) 13 (.e1 8 (.e1 9 (.e1 14 (.e1 15 (.e1 16 .nil))))))))))))))))) (by kernel_rfl) (by kernel_rfl) rfl invx_all ?_
          refine bt_plain rfl rfl rfl (fun ext => w_move rfl (ev_tmp rfl)) ?_
          refine bt_plain rfl rfl rfl (fun ext => w_move rfl (ev_tmp rfl)) ?_
          refine bt_plain rfl rfl rfl (fun ext => w_move rfl (ev_tmp rfl)) ?_
          refine bt_plain rfl rfl rfl (fun ext => w_move rfl (ev_tmp rfl)) ?_
          refine bt_plain rfl rfl rfl (fun ext => w_subi rfl (ev_tmp rfl) ev_ci (by first | omega | ((try simp only [List.length_map, List.length_take, List.length_cons, List.length_nil, chunks_len, szR] at *); omega) | (have hc2 := hc; simp only [Bool.and_eq_true, Bool.or_eq_true, Bool.or_eq_false_iff, Bool.and_eq_false_iff, Bool.not_eq_true', Bool.not_eq_false', decide_eq_true_eq, decide_eq_false_iff_not, beq_iff_eq, bne_iff_ne, List.length_map, List.length_take] at hc2; omega))) ?_
          refine bt_plain rfl rfl rfl (fun ext => w_move rfl (ev_tmp rfl)) ?_
          refine bt_plain rfl rfl rfl (fun ext => w_move rfl (ev_tmp rfl)) ?_
          refine bt_plain rfl rfl rfl (fun ext => w_subi rfl (ev_tmp rfl) ev_ci (by first | omega | ((try simp only [List.length_map, List.length_take, List.length_cons, List.length_nil, chunks_len, szR] at *); omega) | (have hc2 := hc; simp only [Bool.and_eq_true, Bool.or_eq_true, Bool.or_eq_false_iff, Bool.and_eq_false_iff, Bool.not_eq_true', Bool.not_eq_false', decide_eq_true_eq, decide_eq_false_iff_not, beq_iff_eq, bne_iff_ne, List.length_map, List.length_take] at hc2; omega))) ?_
          refine bt_plain rfl rfl rfl (fun ext => w_move rfl (ev_tmp rfl)) ?_
          refine bt_plain rfl rfl rfl (fun ext => w_move rfl (ev_tmp rfl)) ?_
          refine bt_e2 ?_ ?_
          · refine eff_s rfl rfl rfl (opE_pure (w_aidx 0 rfl Try.underlying24 Try.sizeOf43 (ev_tmp rfl) rfl (ev_tmp rfl) (by first | omega | ((try simp only [List.length_map, List.length_take, List.length_cons, List.length_nil, chunks_len, szR] at *); omega) | (have hc2 := hc; simp only [Bool.and_eq_true, Bool.or_eq_true, Bool.or_eq_false_iff, Bool.and_eq_false_iff, Bool.not_eq_true', Bool.not_eq_false', decide_eq_true_eq, decide_eq_false_iff_not, beq_iff_eq, bne_iff_ne, List.length_map, List.length_take] at hc2; omega)) (by first | omega | ((try simp only [List.length_map, List.length_take, List.length_cons, List.length_nil, chunks_len, szR] at *); omega) | (have hc2 := hc; simp only [Bool.and_eq_true, Bool.or_eq_true, Bool.or_eq_false_iff, Bool.and_eq_false_iff, Bool.not_eq_true', Bool.not_eq_false', decide_eq_true_eq, decide_eq_false_iff_not, beq_iff_eq, bne_iff_ne, List.length_map, List.length_take] at hc2; omega)))) (fun a _ => (by first | exact invx_mk rfl | exact invx_mk (List.append_assoc _ _ _) | exact invx_all)) ?_
            intro _ _
            refine bt_e2 ?_ ?_
            · refine eff_s rfl rfl rfl (opE_pure (w_loadX 0 rfl (ev_tmp rfl) rfl Try.isAgg43 Try.sizeOf43 (by rw [show ((k : Int) - 1).toNat = k - 1 by omega, List.getElem?_map, hy1]; rfl) (by decide))) (fun a _ => (by first | exact invx_mk rfl | exact invx_mk (List.append_assoc _ _ _) | exact invx_all)) ?_
              intro _ _
              refine bt_e1 ?_
              refine eff_s rfl rfl rfl (opE_pure (w_aidx 0 rfl Try.underlying24 Try.sizeOf43 (ev_tmp rfl) rfl (ev_tmp rfl) (by first | omega | ((try simp only [List.length_map, List.length_take, List.length_cons, List.length_nil, chunks_len, szR] at *); omega) | (have hc2 := hc; simp only [Bool.and_eq_true, Bool.or_eq_true, Bool.or_eq_false_iff, Bool.and_eq_false_iff, Bool.not_eq_true', Bool.not_eq_false', decide_eq_true_eq, decide_eq_false_iff_not, beq_iff_eq, bne_iff_ne, List.length_map, List.length_take] at hc2; omega)) (by first | omega | ((try simp only [List.length_map, List.length_take, List.length_cons, List.length_nil, chunks_len, szR] at *); omega) | (have hc2 := hc; simp only [Bool.and_eq_true, Bool.or_eq_true, Bool.or_eq_false_iff, Bool.and_eq_false_iff, Bool.not_eq_true', Bool.not_eq_false', decide_eq_true_eq, decide_eq_false_iff_not, beq_iff_eq, bne_iff_ne, List.length_map, List.length_take] at hc2; omega)))) (fun a _ => (by first | exact invx_mk rfl | exact invx_mk (List.append_assoc _ _ _) | exact invx_all)) ?_
              intro _ _
              refine bt_e1 ?_
              refine eff_s rfl rfl rfl (opE_pure (w_loadX 0 rfl (ev_tmp rfl) rfl Try.isAgg43 Try.sizeOf43 (by rw [Int.toNat_natCast, List.getElem?_map, hx1]; rfl) (by decide))) (fun a _ => (by first | exact invx_mk rfl | exact invx_mk (List.append_assoc _ _ _) | exact invx_all)) ?_
              intro _ _
              refine bt_e1 ?_
              refine eff_s rfl rfl rfl (opE_pure (w_aidx 0 rfl Try.underlying24 Try.sizeOf43 (ev_tmp rfl) rfl (ev_tmp rfl) (by first | omega | ((try simp only [List.length_map, List.length_take, List.length_cons, List.length_nil, chunks_len, szR] at *); omega) | (have hc2 := hc; simp only [Bool.and_eq_true, Bool.or_eq_true, Bool.or_eq_false_iff, Bool.and_eq_false_iff, Bool.not_eq_true', Bool.not_eq_false', decide_eq_true_eq, decide_eq_false_iff_not, beq_iff_eq, bne_iff_ne, List.length_map, List.length_take] at hc2; omega)) (by first | omega | ((try simp only [List.length_map, List.length_take, List.length_cons, List.length_nil, chunks_len, szR] at *); omega) | (have hc2 := hc; simp only [Bool.and_eq_true, Bool.or_eq_true, Bool.or_eq_false_iff, Bool.and_eq_false_iff, Bool.not_eq_true', Bool.not_eq_false', decide_eq_true_eq, decide_eq_false_iff_not, beq_iff_eq, bne_iff_ne, List.length_map, List.length_take] at hc2; omega)))) (fun a _ => (by first | exact invx_mk rfl | exact invx_mk (List.append_assoc _ _ _) | exact invx_all)) ?_
              intro _ _
              refine bt_e1 ?_
              refine eff_s0 rfl rfl rfl (opE_storeA 0 rfl rfl (ev_tmp rfl) (ev_tmp rfl) (as_agg _) rfl Try.sizeOf43 rfl (by first | omega | ((try simp only [List.length_map, List.length_take, List.length_cons, List.length_nil, chunks_len, szR] at *); omega) | (have hc2 := hc; simp only [Bool.and_eq_true, Bool.or_eq_true, Bool.or_eq_false_iff, Bool.and_eq_false_iff, Bool.not_eq_true', Bool.not_eq_false', decide_eq_true_eq, decide_eq_false_iff_not, beq_iff_eq, bne_iff_ne, List.length_map, List.length_take] at hc2; omega))) (fun a _ => (by first | exact invx_mk rfl | exact invx_mk (List.append_assoc _ _ _) | exact invx_all)) ?_
              intro _ _
              refine bt_e1 ?_
              refine eff_s rfl rfl rfl (opE_pure (w_aidx 0 rfl Try.underlying24 Try.sizeOf43 (ev_tmp rfl) rfl (ev_tmp rfl) (by omega) (by rw [List.length_set, List.length_map]; omega))) (fun a _ => (by first | exact invx_mk rfl | exact invx_mk (List.append_assoc _ _ _) | exact invx_all)) ?_
              intro _ _
              refine bt_nil ?_
              refine sq_storeA 0 rfl rfl rfl (ev_tmp rfl) (ev_tmp rfl) (as_agg _) rfl Try.sizeOf43 rfl (by simp only [List.length_set, List.length_map]; omega) ?_
              refine sq_nil ?_
              refine awp_region ?_
              refine sq_plain rfl rfl rfl (w_move rfl (ev_tmp rfl)) ?_
              refine sq_plain rfl rfl rfl (w_subi rfl (ev_tmp rfl) ev_ci (by first | omega | ((try simp only [List.length_map, List.length_take, List.length_cons, List.length_nil, chunks_len, szR] at *); omega) | (have hc2 := hc; simp only [Bool.and_eq_true, Bool.or_eq_true, Bool.or_eq_false_iff, Bool.and_eq_false_iff, Bool.not_eq_true', Bool.not_eq_false', decide_eq_true_eq, decide_eq_false_iff_not, beq_iff_eq, bne_iff_ne, List.length_map, List.length_take] at hc2; omega))) ?_
              refine sq_plain rfl rfl rfl (w_assign rfl (ev_tmp rfl)) ?_
              refine sq_nil ?_
              refine round_end k (k - 1) ?_ ?_ (le_eq (by (rw [show ((k : Int) - 1).toNat = k - 1 by omega, Int.toNat_natCast]; exact congrArg (fun z => [Own.arr v 43 5 z]) (by rw [← List.map_set, ← List.map_set, swp_eq hx1 hy1, downR_next l (by omega) (by omega)]))) ⟨congrArg (fun z => some (AV.int z)) (by omega), rfl, rfl, rfl, rfl, rfl, rfl, trivial⟩)
              · omega
              · omega
            · refine eff_s rfl rfl rfl (opE_pure (w_aidx 0 rfl Try.underlying24 Try.sizeOf43 (ev_tmp rfl) rfl (ev_tmp rfl) (by first | omega | ((try simp only [List.length_map, List.length_take, List.length_cons, List.length_nil, chunks_len, szR] at *); omega) | (have hc2 := hc; simp only [Bool.and_eq_true, Bool.or_eq_true, Bool.or_eq_false_iff, Bool.and_eq_false_iff, Bool.not_eq_true', Bool.not_eq_false', decide_eq_true_eq, decide_eq_false_iff_not, beq_iff_eq, bne_iff_ne, List.length_map, List.length_take] at hc2; omega)) (by first | omega | ((try simp only [List.length_map, List.length_take, List.length_cons, List.length_nil, chunks_len, szR] at *); omega) | (have hc2 := hc; simp only [Bool.and_eq_true, Bool.or_eq_true, Bool.or_eq_false_iff, Bool.and_eq_false_iff, Bool.not_eq_true', Bool.not_eq_false', decide_eq_true_eq, decide_eq_false_iff_not, beq_iff_eq, bne_iff_ne, List.length_map, List.length_take] at hc2; omega)))) (fun a _ => (by first | exact invx_mk rfl | exact invx_mk (List.append_assoc _ _ _) | exact invx_all)) ?_
              intro _ _
              refine bt_e2 ?_ ?_
              · refine eff_s rfl rfl rfl (opE_pure (w_loadX 0 rfl (ev_tmp rfl) rfl Try.isAgg43 Try.sizeOf43 (by rw [show ((k : Int) - 1).toNat = k - 1 by omega, List.getElem?_map, hy1]; rfl) (by decide))) (fun a _ => (by first | exact invx_mk rfl | exact invx_mk (List.append_assoc _ _ _) | exact invx_all)) ?_
                intro _ _
                refine bt_e1 ?_
                refine eff_s rfl rfl rfl (opE_pure (w_loadX 0 rfl (ev_tmp rfl) rfl Try.isAgg43 Try.sizeOf43 (by rw [Int.toNat_natCast, List.getElem?_map, hx1]; rfl) (by decide))) (fun a _ => (by first | exact invx_mk rfl | exact invx_mk (List.append_assoc _ _ _) | exact invx_all)) ?_
                intro _ _
                refine bt_e1 ?_
                refine eff_s rfl rfl rfl (opE_pure (w_aidx 0 rfl Try.underlying24 Try.sizeOf43 (ev_tmp rfl) rfl (ev_tmp rfl) (by first | omega | ((try simp only [List.length_map, List.length_take, List.length_cons, List.length_nil, chunks_len, szR] at *); omega) | (have hc2 := hc; simp only [Bool.and_eq_true, Bool.or_eq_true, Bool.or_eq_false_iff, Bool.and_eq_false_iff, Bool.not_eq_true', Bool.not_eq_false', decide_eq_true_eq, decide_eq_false_iff_not, beq_iff_eq, bne_iff_ne, List.length_map, List.length_take] at hc2; omega)) (by first | omega | ((try simp only [List.length_map, List.length_take, List.length_cons, List.length_nil, chunks_len, szR] at *); omega) | (have hc2 := hc; simp only [Bool.and_eq_true, Bool.or_eq_true, Bool.or_eq_false_iff, Bool.and_eq_false_iff, Bool.not_eq_true', Bool.not_eq_false', decide_eq_true_eq, decide_eq_false_iff_not, beq_iff_eq, bne_iff_ne, List.length_map, List.length_take] at hc2; omega)))) (fun a _ => (by first | exact invx_mk rfl | exact invx_mk (List.append_assoc _ _ _) | exact invx_all)) ?_
                intro _ _
                refine bt_e1 ?_
                refine eff_s0 rfl rfl rfl (opE_storeA 0 rfl rfl (ev_tmp rfl) (ev_tmp rfl) (as_agg _) rfl Try.sizeOf43 rfl (by first | omega | ((try simp only [List.length_map, List.length_take, List.length_cons, List.length_nil, chunks_len, szR] at *); omega) | (have hc2 := hc; simp only [Bool.and_eq_true, Bool.or_eq_true, Bool.or_eq_false_iff, Bool.and_eq_false_iff, Bool.not_eq_true', Bool.not_eq_false', decide_eq_true_eq, decide_eq_false_iff_not, beq_iff_eq, bne_iff_ne, List.length_map, List.length_take] at hc2; omega))) (fun a _ => (by first | exact invx_mk rfl | exact invx_mk (List.append_assoc _ _ _) | exact invx_all)) ?_
                intro _ _
                refine bt_e1 ?_
                refine eff_s rfl rfl rfl (opE_pure (w_aidx 0 rfl Try.underlying24 Try.sizeOf43 (ev_tmp rfl) rfl (ev_tmp rfl) (by omega) (by rw [List.length_set, List.length_map]; omega))) (fun a _ => (by first | exact invx_mk rfl | exact invx_mk (List.append_assoc _ _ _) | exact invx_all)) ?_
                intro _ _
                refine bt_nil ?_
                refine sq_storeA 0 rfl rfl rfl (ev_tmp rfl) (ev_tmp rfl) (as_agg _) rfl Try.sizeOf43 rfl (by simp only [List.length_set, List.length_map]; omega) ?_
                refine sq_nil ?_
                refine awp_region ?_
                refine sq_plain rfl rfl rfl (w_move rfl (ev_tmp rfl)) ?_
                refine sq_plain rfl rfl rfl (w_subi rfl (ev_tmp rfl) ev_ci (by first | omega | ((try simp only [List.length_map, List.length_take, List.length_cons, List.length_nil, chunks_len, szR] at *); omega) | (have hc2 := hc; simp only [Bool.and_eq_true, Bool.or_eq_true, Bool.or_eq_false_iff, Bool.and_eq_false_iff, Bool.not_eq_true', Bool.not_eq_false', decide_eq_true_eq, decide_eq_false_iff_not, beq_iff_eq, bne_iff_ne, List.length_map, List.length_take] at hc2; omega))) ?_
                refine sq_plain rfl rfl rfl (w_assign rfl (ev_tmp rfl)) ?_
                refine sq_nil ?_
                refine round_end k (k - 1) ?_ ?_ (le_eq (by (rw [show ((k : Int) - 1).toNat = k - 1 by omega, Int.toNat_natCast]; exact congrArg (fun z => [Own.arr v 43 5 z]) (by rw [← List.map_set, ← List.map_set, swp_eq hx1 hy1, downR_next l (by omega) (by omega)]))) ⟨congrArg (fun z => some (AV.int z)) (by omega), rfl, rfl, rfl, rfl, rfl, rfl, trivial⟩)
                · omega
                · omega
              · refine eff_s rfl rfl rfl (opE_pure (w_loadX 0 rfl (ev_tmp rfl) rfl Try.isAgg43 Try.sizeOf43 (by rw [Int.toNat_natCast, List.getElem?_map, hx1]; rfl) (by decide))) (fun a _ => (by first | exact invx_mk rfl | exact invx_mk (List.append_assoc _ _ _) | exact invx_all)) ?_
                intro _ _
                refine bt_e1 ?_
                refine eff_s rfl rfl rfl (opE_pure (w_loadX 0 rfl (ev_tmp rfl) rfl Try.isAgg43 Try.sizeOf43 (by rw [show ((k : Int) - 1).toNat = k - 1 by omega, List.getElem?_map, hy1]; rfl) (by decide))) (fun a _ => (by first | exact invx_mk rfl | exact invx_mk (List.append_assoc _ _ _) | exact invx_all)) ?_
                intro _ _
                refine bt_e1 ?_
                refine eff_s rfl rfl rfl (opE_pure (w_aidx 0 rfl Try.underlying24 Try.sizeOf43 (ev_tmp rfl) rfl (ev_tmp rfl) (by first | omega | ((try simp only [List.length_map, List.length_take, List.length_cons, List.length_nil, chunks_len, szR] at *); omega) | (have hc2 := hc; simp only [Bool.and_eq_true, Bool.or_eq_true, Bool.or_eq_false_iff, Bool.and_eq_false_iff, Bool.not_eq_true', Bool.not_eq_false', decide_eq_true_eq, decide_eq_false_iff_not, beq_iff_eq, bne_iff_ne, List.length_map, List.length_take] at hc2; omega)) (by first | omega | ((try simp only [List.length_map, List.length_take, List.length_cons, List.length_nil, chunks_len, szR] at *); omega) | (have hc2 := hc; simp only [Bool.and_eq_true, Bool.or_eq_true, Bool.or_eq_false_iff, Bool.and_eq_false_iff, Bool.not_eq_true', Bool.not_eq_false', decide_eq_true_eq, decide_eq_false_iff_not, beq_iff_eq, bne_iff_ne, List.length_map, List.length_take] at hc2; omega)))) (fun a _ => (by first | exact invx_mk rfl | exact invx_mk (List.append_assoc _ _ _) | exact invx_all)) ?_
                intro _ _
                refine bt_e1 ?_
                refine eff_s0 rfl rfl rfl (opE_storeA 0 rfl rfl (ev_tmp rfl) (ev_tmp rfl) (as_agg _) rfl Try.sizeOf43 rfl (by first | omega | ((try simp only [List.length_map, List.length_take, List.length_cons, List.length_nil, chunks_len, szR] at *); omega) | (have hc2 := hc; simp only [Bool.and_eq_true, Bool.or_eq_true, Bool.or_eq_false_iff, Bool.and_eq_false_iff, Bool.not_eq_true', Bool.not_eq_false', decide_eq_true_eq, decide_eq_false_iff_not, beq_iff_eq, bne_iff_ne, List.length_map, List.length_take] at hc2; omega))) (fun a _ => (by first | exact invx_mk rfl | exact invx_mk (List.append_assoc _ _ _) | exact invx_all)) ?_
                intro _ _
                refine bt_e1 ?_
                refine eff_s rfl rfl rfl (opE_pure (w_aidx 0 rfl Try.underlying24 Try.sizeOf43 (ev_tmp rfl) rfl (ev_tmp rfl) (by omega) (by rw [List.length_set, List.length_map]; omega))) (fun a _ => (by first | exact invx_mk rfl | exact invx_mk (List.append_assoc _ _ _) | exact invx_all)) ?_
                intro _ _
                refine bt_nil ?_
                refine sq_storeA 0 rfl rfl rfl (ev_tmp rfl) (ev_tmp rfl) (as_agg _) rfl Try.sizeOf43 rfl (by simp only [List.length_set, List.length_map]; omega) ?_
                refine sq_nil ?_
                refine awp_region ?_
                refine sq_plain rfl rfl rfl (w_move rfl (ev_tmp rfl)) ?_
                refine sq_plain rfl rfl rfl (w_subi rfl (ev_tmp rfl) ev_ci (by first | omega | ((try simp only [List.length_map, List.length_take, List.length_cons, List.length_nil, chunks_len, szR] at *); omega) | (have hc2 := hc; simp only [Bool.and_eq_true, Bool.or_eq_true, Bool.or_eq_false_iff, Bool.and_eq_false_iff, Bool.not_eq_true', Bool.not_eq_false', decide_eq_true_eq, decide_eq_false_iff_not, beq_iff_eq, bne_iff_ne, List.length_map, List.length_take] at hc2; omega))) ?_
                refine sq_plain rfl rfl rfl (w_assign rfl (ev_tmp rfl)) ?_
                refine sq_nil ?_
                refine round_end k (k - 1) ?_ ?_ (le_eq (by (rw [show ((k : Int) - 1).toNat = k - 1 by omega, Int.toNat_natCast]; exact congrArg (fun z => [Own.arr v 43 5 z]) (by rw [← List.map_set, ← List.map_set, swp_eq hx1 hy1, downR_next l (by omega) (by omega)]))) ⟨congrArg (fun z => some (AV.int z)) (by omega), rfl, rfl, rfl, rfl, rfl, rfl, trivial⟩)
                · omega
                · omega
          · refine eff_s rfl rfl rfl (opE_pure (w_aidx 0 rfl Try.underlying24 Try.sizeOf43 (ev_tmp rfl) rfl (ev_tmp rfl) (by first | omega | ((try simp only [List.length_map, List.length_take, List.length_cons, List.length_nil, chunks_len, szR] at *); omega) | (have hc2 := hc; simp only [Bool.and_eq_true, Bool.or_eq_true, Bool.or_eq_false_iff, Bool.and_eq_false_iff, Bool.not_eq_true', Bool.not_eq_false', decide_eq_true_eq, decide_eq_false_iff_not, beq_iff_eq, bne_iff_ne, List.length_map, List.length_take] at hc2; omega)) (by first | omega | ((try simp only [List.length_map, List.length_take, List.length_cons, List.length_nil, chunks_len, szR] at *); omega) | (have hc2 := hc; simp only [Bool.and_eq_true, Bool.or_eq_true, Bool.or_eq_false_iff, Bool.and_eq_false_iff, Bool.not_eq_true', Bool.not_eq_false', decide_eq_true_eq, decide_eq_false_iff_not, beq_iff_eq, bne_iff_ne, List.length_map, List.length_take] at hc2; omega)))) (fun a _ => (by first | exact invx_mk rfl | exact invx_mk (List.append_assoc _ _ _) | exact invx_all)) ?_
            intro _ _
            refine bt_e2 ?_ ?_
            · refine eff_s rfl rfl rfl (opE_pure (w_aidx 0 rfl Try.underlying24 Try.sizeOf43 (ev_tmp rfl) rfl (ev_tmp rfl) (by first | omega | ((try simp only [List.length_map, List.length_take, List.length_cons, List.length_nil, chunks_len, szR] at *); omega) | (have hc2 := hc; simp only [Bool.and_eq_true, Bool.or_eq_true, Bool.or_eq_false_iff, Bool.and_eq_false_iff, Bool.not_eq_true', Bool.not_eq_false', decide_eq_true_eq, decide_eq_false_iff_not, beq_iff_eq, bne_iff_ne, List.length_map, List.length_take] at hc2; omega)) (by first | omega | ((try simp only [List.length_map, List.length_take, List.length_cons, List.length_nil, chunks_len, szR] at *); omega) | (have hc2 := hc; simp only [Bool.and_eq_true, Bool.or_eq_true, Bool.or_eq_false_iff, Bool.and_eq_false_iff, Bool.not_eq_true', Bool.not_eq_false', decide_eq_true_eq, decide_eq_false_iff_not, beq_iff_eq, bne_iff_ne, List.length_map, List.length_take] at hc2; omega)))) (fun a _ => (by first | exact invx_mk rfl | exact invx_mk (List.append_assoc _ _ _) | exact invx_all)) ?_
              intro _ _
              refine bt_e2 ?_ ?_
              · refine eff_s rfl rfl rfl (opE_pure (w_loadX 0 rfl (ev_tmp rfl) rfl Try.isAgg43 Try.sizeOf43 (by rw [show ((k : Int) - 1).toNat = k - 1 by omega, List.getElem?_map, hy1]; rfl) (by decide))) (fun a _ => (by first | exact invx_mk rfl | exact invx_mk (List.append_assoc _ _ _) | exact invx_all)) ?_
                intro _ _
                refine bt_e1 ?_
                refine eff_s rfl rfl rfl (opE_pure (w_loadX 0 rfl (ev_tmp rfl) rfl Try.isAgg43 Try.sizeOf43 (by rw [Int.toNat_natCast, List.getElem?_map, hx1]; rfl) (by decide))) (fun a _ => (by first | exact invx_mk rfl | exact invx_mk (List.append_assoc _ _ _) | exact invx_all)) ?_
                intro _ _
                refine bt_e1 ?_
                refine eff_s rfl rfl rfl (opE_pure (w_aidx 0 rfl Try.underlying24 Try.sizeOf43 (ev_tmp rfl) rfl (ev_tmp rfl) (by first | omega | ((try simp only [List.length_map, List.length_take, List.length_cons, List.length_nil, chunks_len, szR] at *); omega) | (have hc2 := hc; simp only [Bool.and_eq_true, Bool.or_eq_true, Bool.or_eq_false_iff, Bool.and_eq_false_iff, Bool.not_eq_true', Bool.not_eq_false', decide_eq_true_eq, decide_eq_false_iff_not, beq_iff_eq, bne_iff_ne, List.length_map, List.length_take] at hc2; omega)) (by first | omega | ((try simp only [List.length_map, List.length_take, List.length_cons, List.length_nil, chunks_len, szR] at *); omega) | (have hc2 := hc; simp only [Bool.and_eq_true, Bool.or_eq_true, Bool.or_eq_false_iff, Bool.and_eq_false_iff, Bool.not_eq_true', Bool.not_eq_false', decide_eq_true_eq, decide_eq_false_iff_not, beq_iff_eq, bne_iff_ne, List.length_map, List.length_take] at hc2; omega)))) (fun a _ => (by first | exact invx_mk rfl | exact invx_mk (List.append_assoc _ _ _) | exact invx_all)) ?_
                intro _ _
                refine bt_e1 ?_
                refine eff_s0 rfl rfl rfl (opE_storeA 0 rfl rfl (ev_tmp rfl) (ev_tmp rfl) (as_agg _) rfl Try.sizeOf43 rfl (by first | omega | ((try simp only [List.length_map, List.length_take, List.length_cons, List.length_nil, chunks_len, szR] at *); omega) | (have hc2 := hc; simp only [Bool.and_eq_true, Bool.or_eq_true, Bool.or_eq_false_iff, Bool.and_eq_false_iff, Bool.not_eq_true', Bool.not_eq_false', decide_eq_true_eq, decide_eq_false_iff_not, beq_iff_eq, bne_iff_ne, List.length_map, List.length_take] at hc2; omega))) (fun a _ => (by first | exact invx_mk rfl | exact invx_mk (List.append_assoc _ _ _) | exact invx_all)) ?_
                intro _ _
                refine bt_e1 ?_
                refine eff_s rfl rfl rfl (opE_pure (w_aidx 0 rfl Try.underlying24 Try.sizeOf43 (ev_tmp rfl) rfl (ev_tmp rfl) (by omega) (by rw [List.length_set, List.length_map]; omega))) (fun a _ => (by first | exact invx_mk rfl | exact invx_mk (List.append_assoc _ _ _) | exact invx_all)) ?_
                intro _ _
                refine bt_nil ?_
                refine sq_storeA 0 rfl rfl rfl (ev_tmp rfl) (ev_tmp rfl) (as_agg _) rfl Try.sizeOf43 rfl (by simp only [List.length_set, List.length_map]; omega) ?_
                refine sq_nil ?_
                refine awp_region ?_
                refine sq_plain rfl rfl rfl (w_move rfl (ev_tmp rfl)) ?_
                refine sq_plain rfl rfl rfl (w_subi rfl (ev_tmp rfl) ev_ci (by first | omega | ((try simp only [List.length_map, List.length_take, List.length_cons, List.length_nil, chunks_len, szR] at *); omega) | (have hc2 := hc; simp only [Bool.and_eq_true, Bool.or_eq_true, Bool.or_eq_false_iff, Bool.and_eq_false_iff, Bool.not_eq_true', Bool.not_eq_false', decide_eq_true_eq, decide_eq_false_iff_not, beq_iff_eq, bne_iff_ne, List.length_map, List.length_take] at hc2; omega))) ?_
                refine sq_plain rfl rfl rfl (w_assign rfl (ev_tmp rfl)) ?_
                refine sq_nil ?_
                refine round_end k (k - 1) ?_ ?_ (le_eq (by (rw [show ((k : Int) - 1).toNat = k - 1 by omega, Int.toNat_natCast]; exact congrArg (fun z => [Own.arr v 43 5 z]) (by rw [← List.map_set, ← List.map_set, swp_eq hx1 hy1, downR_next l (by omega) (by omega)]))) ⟨congrArg (fun z => some (AV.int z)) (by omega), rfl, rfl, rfl, rfl, rfl, rfl, trivial⟩)
                · omega
                · omega
              · refine eff_s rfl rfl rfl (opE_pure (w_loadX 0 rfl (ev_tmp rfl) rfl Try.isAgg43 Try.sizeOf43 (by rw [Int.toNat_natCast, List.getElem?_map, hx1]; rfl) (by decide))) (fun a _ => (by first | exact invx_mk rfl | exact invx_mk (List.append_assoc _ _ _) | exact invx_all)) ?_
                intro _ _
                refine bt_e1 ?_
                refine eff_s rfl rfl rfl (opE_pure (w_loadX 0 rfl (ev_tmp rfl) rfl Try.isAgg43 Try.sizeOf43 (by rw [show ((k : Int) - 1).toNat = k - 1 by omega, List.getElem?_map, hy1]; rfl) (by decide))) (fun a _ => (by first | exact invx_mk rfl | exact invx_mk (List.append_assoc _ _ _) | exact invx_all)) ?_
                intro _ _
                refine bt_e1 ?_
                refine eff_s rfl rfl rfl (opE_pure (w_aidx 0 rfl Try.underlying24 Try.sizeOf43 (ev_tmp rfl) rfl (ev_tmp rfl) (by first | omega | ((try simp only [List.length_map, List.length_take, List.length_cons, List.length_nil, chunks_len, szR] at *); omega) | (have hc2 := hc; simp only [Bool.and_eq_true, Bool.or_eq_true, Bool.or_eq_false_iff, Bool.and_eq_false_iff, Bool.not_eq_true', Bool.not_eq_false', decide_eq_true_eq, decide_eq_false_iff_not, beq_iff_eq, bne_iff_ne, List.length_map, List.length_take] at hc2; omega)) (by first | omega | ((try simp only [List.length_map, List.length_take, List.length_cons, List.length_nil, chunks_len, szR] at *); omega) | (have hc2 := hc; simp only [Bool.and_eq_true, Bool.or_eq_true, Bool.or_eq_false_iff, Bool.and_eq_false_iff, Bool.not_eq_true', Bool.not_eq_false', decide_eq_true_eq, decide_eq_false_iff_not, beq_iff_eq, bne_iff_ne, List.length_map, List.length_take] at hc2; omega)))) (fun a _ => (by first | exact invx_mk rfl | exact invx_mk (List.append_assoc _ _ _) | exact invx_all)) ?_
                intro _ _
                refine bt_e1 ?_
                refine eff_s0 rfl rfl rfl (opE_storeA 0 rfl rfl (ev_tmp rfl) (ev_tmp rfl) (as_agg _) rfl Try.sizeOf43 rfl (by first | omega | ((try simp only [List.length_map, List.length_take, List.length_cons, List.length_nil, chunks_len, szR] at *); omega) | (have hc2 := hc; simp only [Bool.and_eq_true, Bool.or_eq_true, Bool.or_eq_false_iff, Bool.and_eq_false_iff, Bool.not_eq_true', Bool.not_eq_false', decide_eq_true_eq, decide_eq_false_iff_not, beq_iff_eq, bne_iff_ne, List.length_map, List.length_take] at hc2; omega))) (fun a _ => (by first | exact invx_mk rfl | exact invx_mk (List.append_assoc _ _ _) | exact invx_all)) ?_
                intro _ _
                refine bt_e1 ?_
                refine eff_s rfl rfl rfl (opE_pure (w_aidx 0 rfl Try.underlying24 Try.sizeOf43 (ev_tmp rfl) rfl (ev_tmp rfl) (by omega) (by rw [List.length_set, List.length_map]; omega))) (fun a _ => (by first | exact invx_mk rfl | exact invx_mk (List.append_assoc _ _ _) | exact invx_all)) ?_
                intro _ _
                refine bt_nil ?_
                refine sq_storeA 0 rfl rfl rfl (ev_tmp rfl) (ev_tmp rfl) (as_agg _) rfl Try.sizeOf43 rfl (by simp only [List.length_set, List.length_map]; omega) ?_
                refine sq_nil ?_
                refine awp_region ?_
                refine sq_plain rfl rfl rfl (w_move rfl (ev_tmp rfl)) ?_
                refine sq_plain rfl rfl rfl (w_subi rfl (ev_tmp rfl) ev_ci (by first | omega | ((try simp only [List.length_map, List.length_take, List.length_cons, List.length_nil, chunks_len, szR] at *); omega) | (have hc2 := hc; simp only [Bool.and_eq_true, Bool.or_eq_true, Bool.or_eq_false_iff, Bool.and_eq_false_iff, Bool.not_eq_true', Bool.not_eq_false', decide_eq_true_eq, decide_eq_false_iff_not, beq_iff_eq, bne_iff_ne, List.length_map, List.length_take] at hc2; omega))) ?_
                refine sq_plain rfl rfl rfl (w_assign rfl (ev_tmp rfl)) ?_
                refine sq_nil ?_
                refine round_end k (k - 1) ?_ ?_ (le_eq (by (rw [show ((k : Int) - 1).toNat = k - 1 by omega, Int.toNat_natCast]; exact congrArg (fun z => [Own.arr v 43 5 z]) (by rw [← List.map_set, ← List.map_set, swp_eq hx1 hy1, downR_next l (by omega) (by omega)]))) ⟨congrArg (fun z => some (AV.int z)) (by omega), rfl, rfl, rfl, rfl, rfl, rfl, trivial⟩)
                · omega
                · omega
            · refine eff_s rfl rfl rfl (opE_pure (w_loadX 0 rfl (ev_tmp rfl) rfl Try.isAgg43 Try.sizeOf43 (by rw [Int.toNat_natCast, List.getElem?_map, hx1]; rfl) (by decide))) (fun a _ => (by first | exact invx_mk rfl | exact invx_mk (List.append_assoc _ _ _) | exact invx_all)) ?_
              intro _ _
              refine bt_e1 ?_
              refine eff_s rfl rfl rfl (opE_pure (w_aidx 0 rfl Try.underlying24 Try.sizeOf43 (ev_tmp rfl) rfl (ev_tmp rfl) (by first | omega | ((try simp only [List.length_map, List.length_take, List.length_cons, List.length_nil, chunks_len, szR] at *); omega) | (have hc2 := hc; simp only [Bool.and_eq_true, Bool.or_eq_true, Bool.or_eq_false_iff, Bool.and_eq_false_iff, Bool.not_eq_true', Bool.not_eq_false', decide_eq_true_eq, decide_eq_false_iff_not, beq_iff_eq, bne_iff_ne, List.length_map, List.length_take] at hc2; omega)) (by first | omega | ((try simp only [List.length_map, List.length_take, List.length_cons, List.length_nil, chunks_len, szR] at *); omega) | (have hc2 := hc; simp only [Bool.and_eq_true, Bool.or_eq_true, Bool.or_eq_false_iff, Bool.and_eq_false_iff, Bool.not_eq_true', Bool.not_eq_false', decide_eq_true_eq, decide_eq_false_iff_not, beq_iff_eq, bne_iff_ne, List.length_map, List.length_take] at hc2; omega)))) (fun a _ => (by first | exact invx_mk rfl | exact invx_mk (List.append_assoc _ _ _) | exact invx_all)) ?_
              intro _ _
              refine bt_e1 ?_
              refine eff_s rfl rfl rfl (opE_pure (w_loadX 0 rfl (ev_tmp rfl) rfl Try.isAgg43 Try.sizeOf43 (by rw [show ((k : Int) - 1).toNat = k - 1 by omega, List.getElem?_map, hy1]; rfl) (by decide))) (fun a _ => (by first | exact invx_mk rfl | exact invx_mk (List.append_assoc _ _ _) | exact invx_all)) ?_
              intro _ _
              refine bt_e1 ?_
              refine eff_s rfl rfl rfl (opE_pure (w_aidx 0 rfl Try.underlying24 Try.sizeOf43 (ev_tmp rfl) rfl (ev_tmp rfl) (by first | omega | ((try simp only [List.length_map, List.length_take, List.length_cons, List.length_nil, chunks_len, szR] at *); omega) | (have hc2 := hc; simp only [Bool.and_eq_true, Bool.or_eq_true, Bool.or_eq_false_iff, Bool.and_eq_false_iff, Bool.not_eq_true', Bool.not_eq_false', decide_eq_true_eq, decide_eq_false_iff_not, beq_iff_eq, bne_iff_ne, List.length_map, List.length_take] at hc2; omega)) (by first | omega | ((try simp only [List.length_map, List.length_take, List.length_cons, List.length_nil, chunks_len, szR] at *); omega) | (have hc2 := hc; simp only [Bool.and_eq_true, Bool.or_eq_true, Bool.or_eq_false_iff, Bool.and_eq_false_iff, Bool.not_eq_true', Bool.not_eq_false', decide_eq_true_eq, decide_eq_false_iff_not, beq_iff_eq, bne_iff_ne, List.length_map, List.length_take] at hc2; omega)))) (fun a _ => (by first | exact invx_mk rfl | exact invx_mk (List.append_assoc _ _ _) | exact invx_all)) ?_
              intro _ _
              refine bt_e1 ?_
              refine eff_s0 rfl rfl rfl (opE_storeA 0 rfl rfl (ev_tmp rfl) (ev_tmp rfl) (as_agg _) rfl Try.sizeOf43 rfl (by first | omega | ((try simp only [List.length_map, List.length_take, List.length_cons, List.length_nil, chunks_len, szR] at *); omega) | (have hc2 := hc; simp only [Bool.and_eq_true, Bool.or_eq_true, Bool.or_eq_false_iff, Bool.and_eq_false_iff, Bool.not_eq_true', Bool.not_eq_false', decide_eq_true_eq, decide_eq_false_iff_not, beq_iff_eq, bne_iff_ne, List.length_map, List.length_take] at hc2; omega))) (fun a _ => (by first | exact invx_mk rfl | exact invx_mk (List.append_assoc _ _ _) | exact invx_all)) ?_
              intro _ _
              refine bt_e1 ?_
              refine eff_s rfl rfl rfl (opE_pure (w_aidx 0 rfl Try.underlying24 Try.sizeOf43 (ev_tmp rfl) rfl (ev_tmp rfl) (by omega) (by rw [List.length_set, List.length_map]; omega))) (fun a _ => (by first | exact invx_mk rfl | exact invx_mk (List.append_assoc _ _ _) | exact invx_all)) ?_
              intro _ _
              refine bt_nil ?_
              refine sq_storeA 0 rfl rfl rfl (ev_tmp rfl) (ev_tmp rfl) (as_agg _) rfl Try.sizeOf43 rfl (by simp only [List.length_set, List.length_map]; omega) ?_
              refine sq_nil ?_
              refine awp_region ?_
              refine sq_plain rfl rfl rfl (w_move rfl (ev_tmp rfl)) ?_
              refine sq_plain rfl rfl rfl (w_subi rfl (ev_tmp rfl) ev_ci (by first | omega | ((try simp only [List.length_map, List.length_take, List.length_cons, List.length_nil, chunks_len, szR] at *); omega) | (have hc2 := hc; simp only [Bool.and_eq_true, Bool.or_eq_true, Bool.or_eq_false_iff, Bool.and_eq_false_iff, Bool.not_eq_true', Bool.not_eq_false', decide_eq_true_eq, decide_eq_false_iff_not, beq_iff_eq, bne_iff_ne, List.length_map, List.length_take] at hc2; omega))) ?_
              refine sq_plain rfl rfl rfl (w_assign rfl (ev_tmp rfl)) ?_
              refine sq_nil ?_
              refine round_end k (k - 1) ?_ ?_ (le_eq (by (rw [show ((k : Int) - 1).toNat = k - 1 by omega, Int.toNat_natCast]; exact congrArg (fun z => [Own.arr v 43 5 z]) (by rw [← List.map_set, ← List.map_set, swp_eq hx1 hy1, downR_next l (by omega) (by omega)]))) ⟨congrArg (fun z => some (AV.int z)) (by omega), rfl, rfl, rfl, rfl, rfl, rfl, trivial⟩)
              · omega
              · omega
        · intro h110
          have k110 := of_decide_eq_false h110; try simp only [List.length_map] at k110
          have hkj : k = j := by omega
          subst hkj
          refine awp_exit ?_
          refine awp_ret ?_
          first | exact retG [0] (upR l a (j - 1 - a)) (⟨shuf_upR (by omega) (Nat.le_refl _) (by omega), by have h9 := sorted_up hs (l := l) (a := a) (q := j) (b := b) (by omega) (by omega) hb (by rw [← ham1]; exact s2) hinv0.2.1 (by rw [← ham1]; exact hinv0.2.2); rw [show j - (a + 1) = j - 1 - a by omega] at h9; exact h9⟩) rfl (by rfl) (resN rfl (by decide) rv_nil) | exact retG [0] (downR l m (m - k)) (⟨shuf_downR (by omega) (by omega) (by omega) (by omega), by rw [hbm1]; exact sorted_down hs (by omega) (by omega) (by omega) s1 hinv0.2.1 hinv0.2.2⟩) rfl (by rfl) (resN rfl (by decide) rv_nil) | exact retG [0] (x219) (⟨((ok191.1.wide (by omega) (by omega)).trans (ok205.1.wide (Nat.le_refl _) (by omega))).trans (ok219.1.wide (by omega) (Nat.le_refl _)), sorted_glue (ok219.1.sorted_out (.inl (Nat.le_refl _)) ok205.2) ok219.2 (ok219.1.cross2 (ok205.1.cross1 (by have h9 := rot_cross hs ok191.2 (by omega) (by omega) (by omega) (by omega) s1 s2 hc1 hc2; rw [hm1] at h9; exact h9)))⟩) rfl (by rfl) (resN rfl (by decide) rv_nil)
    · intro h80
      have k80 := ne_of_beqf h80; try simp only [List.length_map] at k80
      obtain ⟨mid, hmid, hmd⟩ : ∃ mid : Nat, (IntKind.wrap .i64 (IntKind.wrap .u64 ((a : Int) + (b : Int)) / 2 ^ (1 : Int).toNat)) = (mid : Int) ∧ mid = (a + b) / 2 := ⟨_, mid_eq a b (by omega), rfl⟩
      refine awp_skip ?_
      refine awp_seq ?_
      refine awp_region ?_
      refine sq_plain rfl rfl rfl (w_move rfl (ev_tmp rfl)) ?_
      refine sq_plain rfl rfl rfl (w_move rfl (ev_tmp rfl)) ?_
      refine sq_plain rfl rfl rfl (w_addi rfl (ev_tmp rfl) (ev_tmp rfl) (by first | omega | ((try simp only [List.length_map, List.length_take, List.length_cons, List.length_nil, chunks_len, szR] at *); omega) | (have hc2 := hc; simp only [Bool.and_eq_true, Bool.or_eq_true, Bool.or_eq_false_iff, Bool.and_eq_false_iff, Bool.not_eq_true', Bool.not_eq_false', decide_eq_true_eq, decide_eq_false_iff_not, beq_iff_eq, bne_iff_ne, List.length_map, List.length_take] at hc2; omega))) ?_
      refine sq_plain rfl rfl rfl (w_conv rfl (by kernel_rfl) Try.underlying80 (ev_tmp rfl)) ?_
      refine sq_plain rfl rfl rfl (w_shr rfl (ev_tmp rfl) ev_ci (by decide) (by decide)) ?_
      refine sq_plain rfl rfl rfl (w_conv rfl (by kernel_rfl) Try.underlying3 (ev_tmp rfl)) ?_
      refine sq_plain rfl rfl rfl (w_assign rfl (ev_tmp rfl)) ?_
      refine sq_nil ?_
      refine awp_seq ?_
      refine awp_region ?_
      refine sq_plain rfl rfl rfl (w_move rfl (ev_tmp rfl)) ?_
      refine sq_plain rfl rfl rfl (w_move rfl (ev_tmp rfl)) ?_
      refine sq_plain rfl rfl rfl (w_addi rfl (ev_tmp rfl) (ev_tmp rfl) (by first | omega | ((try simp only [List.length_map, List.length_take, List.length_cons, List.length_nil, chunks_len, szR] at *); omega) | (have hc2 := hc; simp only [Bool.and_eq_true, Bool.or_eq_true, Bool.or_eq_false_iff, Bool.and_eq_false_iff, Bool.not_eq_true', Bool.not_eq_false', decide_eq_true_eq, decide_eq_false_iff_not, beq_iff_eq, bne_iff_ne, List.length_map, List.length_take] at hc2; omega))) ?_
      refine sq_plain rfl rfl rfl (w_assign rfl (ev_tmp rfl)) ?_
      refine sq_nil ?_
      refine awp_seq ?_
      refine awp_region ?_
      refine sq_plain rfl rfl rfl (w_assign rfl ev_ci) ?_
      refine sq_plain rfl rfl rfl (w_assign rfl ev_ci) ?_
      refine sq_nil ?_
      refine awp_seq ?_
      refine awp_seq ?_
      refine awp_region ?_
      refine sq_plain rfl rfl rfl (w_move rfl (ev_tmp rfl)) ?_
      refine sq_plain rfl rfl rfl (w_move rfl (ev_tmp rfl)) ?_
      refine sq_plain rfl rfl rfl (w_gtr rfl (ev_tmp rfl) (ev_tmp rfl)) ?_
      refine sq_nil ?_
      refine awp_cond (ev_tmp rfl) ?_ ?_
      · intro h140
        have k140 := of_decide_eq_true h140; try simp only [List.length_map] at k140
        obtain ⟨s0, hs0⟩ : ∃ s0 : Nat, s0 = mid + m - b := ⟨_, rfl⟩
        obtain ⟨r0, hr0⟩ : ∃ r0 : Nat, r0 = mid := ⟨_, rfl⟩
        refine awp_seq ?_
        refine awp_region ?_
        refine sq_plain rfl rfl rfl (w_move rfl (ev_tmp rfl)) ?_
        refine sq_plain rfl rfl rfl (w_move rfl (ev_tmp rfl)) ?_
        refine sq_plain rfl rfl rfl (w_subi rfl (ev_tmp rfl) (ev_tmp rfl) (by first | omega | ((try simp only [List.length_map, List.length_take, List.length_cons, List.length_nil, chunks_len, szR] at *); omega) | (have hc2 := hc; simp only [Bool.and_eq_true, Bool.or_eq_true, Bool.or_eq_false_iff, Bool.and_eq_false_iff, Bool.not_eq_true', Bool.not_eq_false', decide_eq_true_eq, decide_eq_false_iff_not, beq_iff_eq, bne_iff_ne, List.length_map, List.length_take] at hc2; omega))) ?_
        refine sq_plain rfl rfl rfl (w_assign rfl (ev_tmp rfl)) ?_
        refine sq_nil ?_
        refine awp_region ?_
        refine sq_plain rfl rfl rfl (w_move rfl (ev_tmp rfl)) ?_
        refine sq_plain rfl rfl rfl (w_assign rfl (ev_tmp rfl)) ?_
        refine sq_nil ?_
        refine awp_seq ?_
        refine awp_region ?_
        refine sq_plain rfl rfl rfl (w_move rfl (ev_tmp rfl)) ?_
        refine sq_plain rfl rfl rfl (w_subi rfl (ev_tmp rfl) ev_ci (by first | omega | ((try simp only [List.length_map, List.length_take, List.length_cons, List.length_nil, chunks_len, szR] at *); omega) | (have hc2 := hc; simp only [Bool.and_eq_true, Bool.or_eq_true, Bool.or_eq_false_iff, Bool.and_eq_false_iff, Bool.not_eq_true', Bool.not_eq_false', decide_eq_true_eq, decide_eq_false_iff_not, beq_iff_eq, bne_iff_ne, List.length_map, List.length_take] at hc2; omega))) ?_
        refine sq_plain rfl rfl rfl (w_assign rfl (ev_tmp rfl)) ?_
        refine sq_nil ?_
        refine awp_seq ?_
        refine awp_block ?_
        refine awp_loop_i2 [(0, _), (1, _), (2, _), (3, _), (4, _), (18, _), (19, _), (22, _)] _ (fun (s : Nat) (r : Nat) => (s0 ≤ s ∧ s ≤ r ∧ r ≤ r0) ∧ (s = s0 ∨ ∃ x y, l[s - 1]? = some x ∧ l[mid + m - s]? = some y ∧ decide (f y x < 0) = false) ∧ (r = r0 ∨ ∃ x y, l[mid + m - 1 - r]? = some x ∧ l[r]? = some y ∧ decide (f x y < 0) = true)) (fun (s : Nat) (r : Nat) => [.arr v 43 5 (l.map TFeedItem.cs)]) (fun (s : Nat) (r : Nat) => [(20, AV.int s), (21, AV.int r)]) (fun (s : Nat) (r : Nat) => r - s) (s0) (r0) ?_ (le_eq (by rfl) ⟨congrArg (fun z => some (AV.int z)) (by omega), congrArg (fun z => some (AV.int z)) (by omega), rfl, rfl, rfl, rfl, rfl, rfl, rfl, rfl, trivial⟩) ?_
        · exact ⟨by omega, .inl rfl, .inl rfl⟩
        intro s r hinv
        refine awp_seq ?_
        refine awp_seq ?_
        refine awp_region ?_
        refine sq_plain rfl rfl rfl (w_move rfl (ev_tmp rfl)) ?_
        refine sq_plain rfl rfl rfl (w_move rfl (ev_tmp rfl)) ?_
        refine sq_plain rfl rfl rfl (w_lss rfl (ev_tmp rfl) (ev_tmp rfl)) ?_
        refine sq_nil ?_
        refine awp_cond (ev_tmp rfl) ?_ ?_
        · intro h151
          have k151 := of_decide_eq_true h151; try simp only [List.length_map] at k151
          have hmid2 := mid_eq s r (by omega)
          obtain ⟨x, hx⟩ := get_some (show mid + m - 1 - (s + r) / 2 < l.length by omega)
          obtain ⟨y, hy⟩ := get_some (show (s + r) / 2 < l.length by omega)
          refine awp_skip ?_
          refine awp_block ?_
          refine awp_seq ?_
          refine awp_region ?_
          refine sq_plain rfl rfl rfl (w_move rfl (ev_tmp rfl)) ?_
          refine sq_plain rfl rfl rfl (w_move rfl (ev_tmp rfl)) ?_
          refine sq_plain rfl rfl rfl (w_addi rfl (ev_tmp rfl) (ev_tmp rfl) (by first | omega | ((try simp only [List.length_map, List.length_take, List.length_cons, List.length_nil, chunks_len, szR] at *); omega) | (have hc2 := hc; simp only [Bool.and_eq_true, Bool.or_eq_true, Bool.or_eq_false_iff, Bool.and_eq_false_iff, Bool.not_eq_true', Bool.not_eq_false', decide_eq_true_eq, decide_eq_false_iff_not, beq_iff_eq, bne_iff_ne, List.length_map, List.length_take] at hc2; omega))) ?_
          refine sq_plain rfl rfl rfl (w_conv rfl (by kernel_rfl) Try.underlying80 (ev_tmp rfl)) ?_
          refine sq_plain rfl rfl rfl (w_shr rfl (ev_tmp rfl) ev_ci (by decide) (by decide)) ?_
          refine sq_plain rfl rfl rfl (w_conv rfl (by kernel_rfl) Try.underlying3 (ev_tmp rfl)) ?_
          refine sq_plain rfl rfl rfl (w_assign rfl (ev_tmp rfl)) ?_
          refine sq_nil ?_
          refine awp_seq ?_
          refine awp_region_any (by kernel_rfl) (by kernel_rfl) rfl ?_
          refine ch_plain rfl rfl (w_move rfl (ev_tmp rfl)) ?_
          refine ch_plain rfl rfl (w_move rfl (ev_tmp rfl)) ?_
          refine ch_plain rfl rfl (w_move rfl (ev_tmp rfl)) ?_
          refine ch_plain rfl rfl (w_move rfl (ev_tmp rfl)) ?_
          refine ch_plain rfl rfl (w_subi rfl (ev_tmp rfl) (ev_tmp rfl) (by first | omega | ((try simp only [List.length_map, List.length_take, List.length_cons, List.length_nil, chunks_len, szR] at *); omega) | (have hc2 := hc; simp only [Bool.and_eq_true, Bool.or_eq_true, Bool.or_eq_false_iff, Bool.and_eq_false_iff, Bool.not_eq_true', Bool.not_eq_false', decide_eq_true_eq, decide_eq_false_iff_not, beq_iff_eq, bne_iff_ne, List.length_map, List.length_take] at hc2; omega))) ?_
          refine ch_plain rfl rfl (w_aidx 0 rfl Try.underlying24 Try.sizeOf43 (ev_tmp rfl) rfl (ev_tmp rfl) (by first | omega | ((try simp only [List.length_map, List.length_take, List.length_cons, List.length_nil, chunks_len, szR] at *); omega) | (have hc2 := hc; simp only [Bool.and_eq_true, Bool.or_eq_true, Bool.or_eq_false_iff, Bool.and_eq_false_iff, Bool.not_eq_true', Bool.not_eq_false', decide_eq_true_eq, decide_eq_false_iff_not, beq_iff_eq, bne_iff_ne, List.length_map, List.length_take] at hc2; omega)) (by first | omega | ((try simp only [List.length_map, List.length_take, List.length_cons, List.length_nil, chunks_len, szR] at *); omega) | (have hc2 := hc; simp only [Bool.and_eq_true, Bool.or_eq_true, Bool.or_eq_false_iff, Bool.and_eq_false_iff, Bool.not_eq_true', Bool.not_eq_false', decide_eq_true_eq, decide_eq_false_iff_not, beq_iff_eq, bne_iff_ne, List.length_map, List.length_take] at hc2; omega))) ?_
          refine ch_plain rfl rfl (w_loadX 0 rfl (ev_tmp rfl) rfl Try.isAgg43 Try.sizeOf43 (by rw [hmid2, hmid, show ((mid : Int) + (m : Int) - 1 - (((s + r) / 2 : Nat) : Int)).toNat = mid + m - 1 - (s + r) / 2 by omega, List.getElem?_map, hx]; rfl) (by decide)) ?_
          refine ch_plain rfl rfl (w_move rfl (ev_tmp rfl)) ?_
          refine ch_plain rfl rfl (w_move rfl (ev_tmp rfl)) ?_
          refine ch_plain rfl rfl (w_aidx 0 rfl Try.underlying24 Try.sizeOf43 (ev_tmp rfl) rfl (ev_tmp rfl) (by first | omega | ((try simp only [List.length_map, List.length_take, List.length_cons, List.length_nil, chunks_len, szR] at *); omega) | (have hc2 := hc; simp only [Bool.and_eq_true, Bool.or_eq_true, Bool.or_eq_false_iff, Bool.and_eq_false_iff, Bool.not_eq_true', Bool.not_eq_false', decide_eq_true_eq, decide_eq_false_iff_not, beq_iff_eq, bne_iff_ne, List.length_map, List.length_take] at hc2; omega)) (by first | omega | ((try simp only [List.length_map, List.length_take, List.length_cons, List.length_nil, chunks_len, szR] at *); omega) | (have hc2 := hc; simp only [Bool.and_eq_true, Bool.or_eq_true, Bool.or_eq_false_iff, Bool.and_eq_false_iff, Bool.not_eq_true', Bool.not_eq_false', decide_eq_true_eq, decide_eq_false_iff_not, beq_iff_eq, bne_iff_ne, List.length_map, List.length_take] at hc2; omega))) ?_
          refine ch_plain rfl rfl (w_loadX 0 rfl (ev_tmp rfl) rfl Try.isAgg43 Try.sizeOf43 (by rw [hmid2, Int.toNat_natCast, List.getElem?_map, hy]; rfl) (by decide)) ?_
          refine ch_plain rfl rfl (w_callv2 rfl (ev_tmp rfl) x y trivial (ev_tmp rfl) (ev_tmp rfl)) ?_
          refine ch_plain rfl rfl (w_lss rfl (ev_tmp rfl) ev_ci) ?_
          refine ch_plain rfl rfl (w_not rfl (ev_tmp rfl)) ?_
          refine ch_nil ?_
          refine awp_cond (ev_tmp rfl) ?_ ?_
          · intro h171
            refine awp_region ?_
            refine sq_plain rfl rfl rfl (w_move rfl (ev_tmp rfl)) ?_
            refine sq_plain rfl rfl rfl (w_addi rfl (ev_tmp rfl) ev_ci (by first | omega | ((try simp only [List.length_map, List.length_take, List.length_cons, List.length_nil, chunks_len, szR] at *); omega) | (have hc2 := hc; simp only [Bool.and_eq_true, Bool.or_eq_true, Bool.or_eq_false_iff, Bool.and_eq_false_iff, Bool.not_eq_true', Bool.not_eq_false', decide_eq_true_eq, decide_eq_false_iff_not, beq_iff_eq, bne_iff_ne, List.length_map, List.length_take] at hc2; omega))) ?_
            refine sq_plain rfl rfl rfl (w_assign rfl (ev_tmp rfl)) ?_
            refine sq_nil ?_
            refine blockN ?_
            refine round_end2 s r ((s + r) / 2 + 1) (r) ?_ ?_ (le_eq (by rfl) ⟨(by first | rfl | exact congrArg (fun z => some (AV.int z)) (by rw [hmid2]; omega)), (by first | rfl | exact congrArg (fun z => some (AV.int z)) hmid2), rfl, rfl, rfl, rfl, rfl, rfl, rfl, rfl, trivial⟩)
            · exact ⟨by omega, .inr ⟨y, x, by rw [Nat.add_sub_cancel]; exact hy, by rw [show mid + m - ((s + r) / 2 + 1) = mid + m - 1 - (s + r) / 2 by omega]; exact hx, by simpa using h171⟩, hinv.2.2⟩
            · omega
          · intro h171
            refine awp_region ?_
            refine sq_plain rfl rfl rfl (w_move rfl (ev_tmp rfl)) ?_
            refine sq_plain rfl rfl rfl (w_assign rfl (ev_tmp rfl)) ?_
            refine sq_nil ?_
            refine blockN ?_
            refine round_end2 s r (s) ((s + r) / 2) ?_ ?_ (le_eq (by rfl) ⟨(by first | rfl | exact congrArg (fun z => some (AV.int z)) (by rw [hmid2]; omega)), (by first | rfl | exact congrArg (fun z => some (AV.int z)) hmid2), rfl, rfl, rfl, rfl, rfl, rfl, rfl, rfl, trivial⟩)
            · exact ⟨by omega, hinv.2.1, .inr ⟨x, y, hx, hy, by simpa using h171⟩⟩
            · omega
        · intro h151
          have k151 := of_decide_eq_false h151; try simp only [List.length_map] at k151
          have hsr : s = r := by omega
          subst hsr
          have hinv0 := hinv
          have hc1 : s = a ∨ mid + m - s = b ∨ ∃ x y, l[s - 1]? = some x ∧ l[mid + m - s]? = some y ∧ decide (f y x < 0) = false := (by rcases hinv0.2.1 with e | e; (by_cases e9 : s = a); exact .inl e9; exact .inr (.inl (by omega)); exact .inr (.inr e))
          have hc2 : s = m ∨ mid + m - s = m ∨ ∃ x y, l[mid + m - s - 1]? = some x ∧ l[s]? = some y ∧ decide (f x y < 0) = true := (by rcases hinv0.2.2 with e | e; (by_cases e9 : s = m); exact .inl e9; exact .inr (.inl (by omega)); exact .inr (.inr (by rw [show mid + m - s - 1 = mid + m - 1 - s by omega]; exact e)))
          refine awp_exit ?_
          refine awp_seq ?_
          refine awp_region ?_
          refine sq_plain rfl rfl rfl (w_move rfl (ev_tmp rfl)) ?_
          refine sq_plain rfl rfl rfl (w_move rfl (ev_tmp rfl)) ?_
          refine sq_plain rfl rfl rfl (w_subi rfl (ev_tmp rfl) (ev_tmp rfl) (by first | omega | ((try simp only [List.length_map, List.length_take, List.length_cons, List.length_nil, chunks_len, szR] at *); omega) | (have hc2 := hc; simp only [Bool.and_eq_true, Bool.or_eq_true, Bool.or_eq_false_iff, Bool.and_eq_false_iff, Bool.not_eq_true', Bool.not_eq_false', decide_eq_true_eq, decide_eq_false_iff_not, beq_iff_eq, bne_iff_ne, List.length_map, List.length_take] at hc2; omega))) ?_
          refine sq_plain rfl rfl rfl (w_assign rfl (ev_tmp rfl)) ?_
          refine sq_nil ?_
          refine awp_seq ?_
          refine awp_seq ?_
          refine awp_region ?_
          refine sq_plain rfl rfl rfl (w_move rfl (ev_tmp rfl)) ?_
          refine sq_plain rfl rfl rfl (w_move rfl (ev_tmp rfl)) ?_
          refine sq_plain rfl rfl rfl (w_lss rfl (ev_tmp rfl) (ev_tmp rfl)) ?_
          refine sq_plain rfl rfl rfl (w_move rfl (ev_tmp rfl)) ?_
          refine sq_grd rfl rfl (guard_t rfl rfl rfl) (fun hc => w_move rfl (ev_tmp rfl)) ?_
          refine sq_grd rfl rfl (guard_t rfl rfl rfl) (fun hc => w_move rfl (ev_tmp rfl)) ?_
          refine sq_grd rfl rfl (guard_t rfl rfl rfl) (fun hc => w_lss rfl (ev_whn rfl hc) (ev_whn rfl hc)) ?_
          refine sq_plain rfl rfl rfl (w_and rfl (ev_tmp rfl) (evif_w rfl)) ?_
          refine sq_nil ?_
          refine awp_cond (ev_tmp rfl) ?_ ?_
          · intro h185
            simp only [Bool.and_eq_true, decide_eq_true_eq] at h185
            refine awp_region ?_
            refine sq_plain rfl rfl rfl (w_move rfl (ev_tmp rfl)) ?_
            refine sq_plain rfl rfl rfl (w_move rfl (ev_tmp rfl)) ?_
            refine sq_plain rfl rfl rfl (w_move rfl (ev_tmp rfl)) ?_
            refine sq_plain rfl rfl rfl (w_move rfl (ev_tmp rfl)) ?_
            refine sq_plain rfl rfl rfl (w_move rfl (ev_tmp rfl)) ?_
            refine sq_callG [0] rfl rfl rfl rfl Try.call61 rfl (rotate_own v l s m (mid + m - s) _ (by omega) (by omega) (by omega) (by omega)) (evl_cons (ev_tmp rfl) (evl_cons (ev_tmp rfl) (evl_cons (ev_tmp rfl) (evl_cons (ev_tmp (congrArg (fun z => some (AV.int z)) (by rw [hmid]; omega))) (evl_cons (ev_tmp rfl) evl_nil))))) rfl ?_
            intro x191 ok191
            refine sq_nil ?_
            refine awp_seq ?_
            refine awp_seq ?_
            refine awp_region ?_
            refine sq_plain rfl rfl rfl (w_move rfl (ev_tmp rfl)) ?_
            refine sq_plain rfl rfl rfl (w_move rfl (ev_tmp rfl)) ?_
            refine sq_plain rfl rfl rfl (w_lss rfl (ev_tmp rfl) (ev_tmp rfl)) ?_
            refine sq_plain rfl rfl rfl (w_move rfl (ev_tmp rfl)) ?_
            refine sq_grd rfl rfl (guard_t rfl rfl rfl) (fun hc => w_move rfl (ev_tmp rfl)) ?_
            refine sq_grd rfl rfl (guard_t rfl rfl rfl) (fun hc => w_move rfl (ev_tmp rfl)) ?_
            refine sq_grd rfl rfl (guard_t rfl rfl rfl) (fun hc => w_lss rfl (ev_whn rfl hc) (ev_whn rfl hc)) ?_
            refine sq_plain rfl rfl rfl (w_and rfl (ev_tmp rfl) (evif_w rfl)) ?_
            refine sq_nil ?_
            refine awp_cond (ev_tmp rfl) ?_ ?_
            · intro h199
              simp only [Bool.and_eq_true, decide_eq_true_eq] at h199
              have hl1 := ok191.1.len
              have hm1 : s + (mid + m - s - m) = mid := by omega
              have t1 : SortedOn (fun x y => decide (f x y < 0)) x191 a s := ok191.2.s1 (by omega) (by omega) s1
              have t2 : SortedOn (fun x y => decide (f x y < 0)) x191 s mid := (by have h9 := ok191.2.s2 (by omega) (by omega) (by omega) s2; rw [hm1] at h9; exact h9)
              refine awp_region ?_
              refine sq_plain rfl rfl rfl (w_move rfl (ev_tmp rfl)) ?_
              refine sq_plain rfl rfl rfl (w_move rfl (ev_tmp rfl)) ?_
              refine sq_plain rfl rfl rfl (w_move rfl (ev_tmp rfl)) ?_
              refine sq_plain rfl rfl rfl (w_move rfl (ev_tmp rfl)) ?_
              refine sq_plain rfl rfl rfl (w_move rfl (ev_tmp rfl)) ?_
              refine sq_callG [0] rfl rfl rfl rfl Try.call50 rfl (ih x191 a s mid (by omega) (by omega) (by omega) (by omega) (by omega) t1 t2) (evl_cons (ev_tmp rfl) (evl_cons (ev_tmp rfl) (evl_cons (ev_tmp rfl) (evl_cons (ev_tmp (congrArg (fun z => some (AV.int z)) hmid)) (evl_cons (ev_tmp rfl) evl_nil))))) rfl ?_
              intro x205 ok205
              refine sq_nil ?_
              refine awp_seq ?_
              refine awp_region ?_
              refine sq_plain rfl rfl rfl (w_move rfl (ev_tmp rfl)) ?_
              refine sq_plain rfl rfl rfl (w_move rfl (ev_tmp rfl)) ?_
              refine sq_plain rfl rfl rfl (w_lss rfl (ev_tmp rfl) (ev_tmp rfl)) ?_
              refine sq_plain rfl rfl rfl (w_move rfl (ev_tmp rfl)) ?_
              refine sq_grd rfl rfl (guard_t rfl rfl rfl) (fun hc => w_move rfl (ev_tmp rfl)) ?_
              refine sq_grd rfl rfl (guard_t rfl rfl rfl) (fun hc => w_move rfl (ev_tmp rfl)) ?_
              refine sq_grd rfl rfl (guard_t rfl rfl rfl) (fun hc => w_lss rfl (ev_whn rfl hc) (ev_whn rfl hc)) ?_
              refine sq_plain rfl rfl rfl (w_and rfl (ev_tmp rfl) (evif_w rfl)) ?_
              refine sq_nil ?_
              refine awp_cond (ev_tmp rfl) ?_ ?_
              · intro h213
                simp only [Bool.and_eq_true, decide_eq_true_eq] at h213
                have hl2 := ok205.1.len
                have t3 : SortedOn (fun x y => decide (f x y < 0)) x205 mid (mid + m - s) := ok205.1.sorted_out (.inr (Nat.le_refl _)) (by have h9 := ok191.2.s3 (by omega) (by omega) (by omega) s1; rw [hm1] at h9; exact h9)
                have t4 : SortedOn (fun x y => decide (f x y < 0)) x205 (mid + m - s) b := ok205.1.sorted_out (.inr (by omega)) (ok191.2.s4 (by omega) (by omega) s2)
                refine awp_region ?_
                refine sq_plain rfl rfl rfl (w_move rfl (ev_tmp rfl)) ?_
                refine sq_plain rfl rfl rfl (w_move rfl (ev_tmp rfl)) ?_
                refine sq_plain rfl rfl rfl (w_move rfl (ev_tmp rfl)) ?_
                refine sq_plain rfl rfl rfl (w_move rfl (ev_tmp rfl)) ?_
                refine sq_plain rfl rfl rfl (w_move rfl (ev_tmp rfl)) ?_
                refine sq_callG [0] rfl rfl rfl rfl Try.call50 rfl (ih x205 mid (mid + m - s) b (by omega) (by omega) (by omega) (by omega) (by omega) t3 t4) (evl_cons (ev_tmp rfl) (evl_cons (ev_tmp (congrArg (fun z => some (AV.int z)) hmid)) (evl_cons (ev_tmp (congrArg (fun z => some (AV.int z)) (by rw [hmid]; omega))) (evl_cons (ev_tmp rfl) (evl_cons (ev_tmp rfl) evl_nil))))) rfl ?_
                intro x219 ok219
                refine sq_nil ?_
                first | exact retG [0] (upR l a (j - 1 - a)) (⟨shuf_upR (by omega) (Nat.le_refl _) (by omega), by have h9 := sorted_up hs (l := l) (a := a) (q := j) (b := b) (by omega) (by omega) hb (by rw [← ham1]; exact s2) hinv0.2.1 (by rw [← ham1]; exact hinv0.2.2); rw [show j - (a + 1) = j - 1 - a by omega] at h9; exact h9⟩) rfl (by rfl) (resN rfl (by decide) rv_nil) | exact retG [0] (downR l m (m - k)) (⟨shuf_downR (by omega) (by omega) (by omega) (by omega), by rw [hbm1]; exact sorted_down hs (by omega) (by omega) (by omega) s1 hinv0.2.1 hinv0.2.2⟩) rfl (by rfl) (resN rfl (by decide) rv_nil) | exact retG [0] (x219) (⟨((ok191.1.wide (by omega) (by omega)).trans (ok205.1.wide (Nat.le_refl _) (by omega))).trans (ok219.1.wide (by omega) (Nat.le_refl _)), sorted_glue (ok219.1.sorted_out (.inl (Nat.le_refl _)) ok205.2) ok219.2 (ok219.1.cross2 (ok205.1.cross1 (by have h9 := rot_cross hs ok191.2 (by omega) (by omega) (by omega) (by omega) s1 s2 hc1 hc2; rw [hm1] at h9; exact h9)))⟩) rfl (by rfl) (resN rfl (by decide) rv_nil)
              · intro h213
                have hl2 := ok205.1.len
                have t3 : SortedOn (fun x y => decide (f x y < 0)) x205 mid (mid + m - s) := ok205.1.sorted_out (.inr (Nat.le_refl _)) (by have h9 := ok191.2.s3 (by omega) (by omega) (by omega) s1; rw [hm1] at h9; exact h9)
                have t4 : SortedOn (fun x y => decide (f x y < 0)) x205 (mid + m - s) b := ok205.1.sorted_out (.inr (by omega)) (ok191.2.s4 (by omega) (by omega) s2)
                have hno3 : mid + m - s = mid ∨ mid + m - s = b := by (rw [hmid] at h213; rw [Bool.and_eq_false_iff, decide_eq_false_iff_not, decide_eq_false_iff_not] at h213; omega)
                obtain ⟨x219, e219, ok219⟩ : ∃ z : List TFeedItem, z = x205 ∧ (Shuf x205 z mid b ∧ SortedOn (fun x y => decide (f x y < 0)) z mid b) := ⟨x205, rfl, Shuf.refl _ _ _, by (rcases hno3 with e | e); (rw [e] at t4; exact t4); (rw [e] at t3; exact t3)⟩
                refine awp_own (congrArg (fun z : List TFeedItem => [Own.arr v 43 5 (z.map TFeedItem.cs)]) e219.symm) ?_
                refine awp_skip ?_
                first | exact retG [0] (upR l a (j - 1 - a)) (⟨shuf_upR (by omega) (Nat.le_refl _) (by omega), by have h9 := sorted_up hs (l := l) (a := a) (q := j) (b := b) (by omega) (by omega) hb (by rw [← ham1]; exact s2) hinv0.2.1 (by rw [← ham1]; exact hinv0.2.2); rw [show j - (a + 1) = j - 1 - a by omega] at h9; exact h9⟩) rfl (by rfl) (resN rfl (by decide) rv_nil) | exact retG [0] (downR l m (m - k)) (⟨shuf_downR (by omega) (by omega) (by omega) (by omega), by rw [hbm1]; exact sorted_down hs (by omega) (by omega) (by omega) s1 hinv0.2.1 hinv0.2.2⟩) rfl (by rfl) (resN rfl (by decide) rv_nil) | exact retG [0] (x219) (⟨((ok191.1.wide (by omega) (by omega)).trans (ok205.1.wide (Nat.le_refl _) (by omega))).trans (ok219.1.wide (by omega) (Nat.le_refl _)), sorted_glue (ok219.1.sorted_out (.inl (Nat.le_refl _)) ok205.2) ok219.2 (ok219.1.cross2 (ok205.1.cross1 (by have h9 := rot_cross hs ok191.2 (by omega) (by omega) (by omega) (by omega) s1 s2 hc1 hc2; rw [hm1] at h9; exact h9)))⟩) rfl (by rfl) (resN rfl (by decide) rv_nil)
            · intro h199
              have hl1 := ok191.1.len
              have hm1 : s + (mid + m - s - m) = mid := by omega
              have t1 : SortedOn (fun x y => decide (f x y < 0)) x191 a s := ok191.2.s1 (by omega) (by omega) s1
              have t2 : SortedOn (fun x y => decide (f x y < 0)) x191 s mid := (by have h9 := ok191.2.s2 (by omega) (by omega) (by omega) s2; rw [hm1] at h9; exact h9)
              have hno2 : s = a ∨ s = mid := by (rw [hmid] at h199; rw [Bool.and_eq_false_iff, decide_eq_false_iff_not, decide_eq_false_iff_not] at h199; omega)
              obtain ⟨x205, e205, ok205⟩ : ∃ z : List TFeedItem, z = x191 ∧ (Shuf x191 z a mid ∧ SortedOn (fun x y => decide (f x y < 0)) z a mid) := ⟨x191, rfl, Shuf.refl _ _ _, by (rcases hno2 with e | e); (rw [e] at t2; exact t2); (rw [e] at t1; exact t1)⟩
              refine awp_own (congrArg (fun z : List TFeedItem => [Own.arr v 43 5 (z.map TFeedItem.cs)]) e205.symm) ?_
              refine awp_skip ?_
              refine awp_seq ?_
              refine awp_region ?_
              refine sq_plain rfl rfl rfl (w_move rfl (ev_tmp rfl)) ?_
              refine sq_plain rfl rfl rfl (w_move rfl (ev_tmp rfl)) ?_
              refine sq_plain rfl rfl rfl (w_lss rfl (ev_tmp rfl) (ev_tmp rfl)) ?_
              refine sq_plain rfl rfl rfl (w_move rfl (ev_tmp rfl)) ?_
              refine sq_grd rfl rfl (guard_t rfl rfl rfl) (fun hc => w_move rfl (ev_tmp rfl)) ?_
              refine sq_grd rfl rfl (guard_t rfl rfl rfl) (fun hc => w_move rfl (ev_tmp rfl)) ?_
              refine sq_grd rfl rfl (guard_t rfl rfl rfl) (fun hc => w_lss rfl (ev_whn rfl hc) (ev_whn rfl hc)) ?_
              refine sq_plain rfl rfl rfl (w_and rfl (ev_tmp rfl) (evif_w rfl)) ?_
              refine sq_nil ?_
              refine awp_cond (ev_tmp rfl) ?_ ?_
              · intro h213
                simp only [Bool.and_eq_true, decide_eq_true_eq] at h213
                have hl2 := ok205.1.len
                have t3 : SortedOn (fun x y => decide (f x y < 0)) x205 mid (mid + m - s) := ok205.1.sorted_out (.inr (Nat.le_refl _)) (by have h9 := ok191.2.s3 (by omega) (by omega) (by omega) s1; rw [hm1] at h9; exact h9)
                have t4 : SortedOn (fun x y => decide (f x y < 0)) x205 (mid + m - s) b := ok205.1.sorted_out (.inr (by omega)) (ok191.2.s4 (by omega) (by omega) s2)
                refine awp_region ?_
                refine sq_plain rfl rfl rfl (w_move rfl (ev_tmp rfl)) ?_
                refine sq_plain rfl rfl rfl (w_move rfl (ev_tmp rfl)) ?_
                refine sq_plain rfl rfl rfl (w_move rfl (ev_tmp rfl)) ?_
                refine sq_plain rfl rfl rfl (w_move rfl (ev_tmp rfl)) ?_
                refine sq_plain rfl rfl rfl (w_move rfl (ev_tmp rfl)) ?_
                refine sq_callG [0] rfl rfl rfl rfl Try.call50 rfl (ih x205 mid (mid + m - s) b (by omega) (by omega) (by omega) (by omega) (by omega) t3 t4) (evl_cons (ev_tmp rfl) (evl_cons (ev_tmp (congrArg (fun z => some (AV.int z)) hmid)) (evl_cons (ev_tmp (congrArg (fun z => some (AV.int z)) (by rw [hmid]; omega))) (evl_cons (ev_tmp rfl) (evl_cons (ev_tmp rfl) evl_nil))))) rfl ?_
                intro x219 ok219
                refine sq_nil ?_
                first | exact retG [0] (upR l a (j - 1 - a)) (⟨shuf_upR (by omega) (Nat.le_refl _) (by omega), by have h9 := sorted_up hs (l := l) (a := a) (q := j) (b := b) (by omega) (by omega) hb (by rw [← ham1]; exact s2) hinv0.2.1 (by rw [← ham1]; exact hinv0.2.2); rw [show j - (a + 1) = j - 1 - a by omega] at h9; exact h9⟩) rfl (by rfl) (resN rfl (by decide) rv_nil) | exact retG [0] (downR l m (m - k)) (⟨shuf_downR (by omega) (by omega) (by omega) (by omega), by rw [hbm1]; exact sorted_down hs (by omega) (by omega) (by omega) s1 hinv0.2.1 hinv0.2.2⟩) rfl (by rfl) (resN rfl (by decide) rv_nil) | exact retG [0] (x219) (⟨((ok191.1.wide (by omega) (by omega)).trans (ok205.1.wide (Nat.le_refl _) (by omega))).trans (ok219.1.wide (by omega) (Nat.le_refl _)), sorted_glue (ok219.1.sorted_out (.inl (Nat.le_refl _)) ok205.2) ok219.2 (ok219.1.cross2 (ok205.1.cross1 (by have h9 := rot_cross hs ok191.2 (by omega) (by omega) (by omega) (by omega) s1 s2 hc1 hc2; rw [hm1] at h9; exact h9)))⟩) rfl (by rfl) (resN rfl (by decide) rv_nil)
              · intro h213
                have hl2 := ok205.1.len
                have t3 : SortedOn (fun x y => decide (f x y < 0)) x205 mid (mid + m - s) := ok205.1.sorted_out (.inr (Nat.le_refl _)) (by have h9 := ok191.2.s3 (by omega) (by omega) (by omega) s1; rw [hm1] at h9; exact h9)
                have t4 : SortedOn (fun x y => decide (f x y < 0)) x205 (mid + m - s) b := ok205.1.sorted_out (.inr (by omega)) (ok191.2.s4 (by omega) (by omega) s2)
                have hno3 : mid + m - s = mid ∨ mid + m - s = b := by (rw [hmid] at h213; rw [Bool.and_eq_false_iff, decide_eq_false_iff_not, decide_eq_false_iff_not] at h213; omega)
                obtain ⟨x219, e219, ok219⟩ : ∃ z : List TFeedItem, z = x205 ∧ (Shuf x205 z mid b ∧ SortedOn (fun x y => decide (f x y < 0)) z mid b) := ⟨x205, rfl, Shuf.refl _ _ _, by (rcases hno3 with e | e); (rw [e] at t4; exact t4); (rw [e] at t3; exact t3)⟩
                refine awp_own (congrArg (fun z : List TFeedItem => [Own.arr v 43 5 (z.map TFeedItem.cs)]) e219.symm) ?_
                refine awp_skip ?_
                first | exact retG [0] (upR l a (j - 1 - a)) (⟨shuf_upR (by omega) (Nat.le_refl _) (by omega), by have h9 := sorted_up hs (l := l) (a := a) (q := j) (b := b) (by omega) (by omega) hb (by rw [← ham1]; exact s2) hinv0.2.1 (by rw [← ham1]; exact hinv0.2.2); rw [show j - (a + 1) = j - 1 - a by omega] at h9; exact h9⟩) rfl (by rfl) (resN rfl (by decide) rv_nil) | exact retG [0] (downR l m (m - k)) (⟨shuf_downR (by omega) (by omega) (by omega) (by omega), by rw [hbm1]; exact sorted_down hs (by omega) (by omega) (by omega) s1 hinv0.2.1 hinv0.2.2⟩) rfl (by rfl) (resN rfl (by decide) rv_nil) | exact retG [0] (x219) (⟨((ok191.1.wide (by omega) (by omega)).trans (ok205.1.wide (Nat.le_refl _) (by omega))).trans (ok219.1.wide (by omega) (Nat.le_refl _)), sorted_glue (ok219.1.sorted_out (.inl (Nat.le_refl _)) ok205.2) ok219.2 (ok219.1.cross2 (ok205.1.cross1 (by have h9 := rot_cross hs ok191.2 (by omega) (by omega) (by omega) (by omega) s1 s2 hc1 hc2; rw [hm1] at h9; exact h9)))⟩) rfl (by rfl) (resN rfl (by decide) rv_nil)
          · intro h185
            have hno : s = m ∨ mid + m - s = m := by (rw [hmid] at h185; rw [Bool.and_eq_false_iff, decide_eq_false_iff_not, decide_eq_false_iff_not] at h185; omega)
            obtain ⟨x191, e191, ok191⟩ : ∃ z : List TFeedItem, z = l ∧ (Shuf l z s (mid + m - s) ∧ Rot l z s m (mid + m - s)) := ⟨l, rfl, Shuf.refl _ _ _, rot_none (by omega) (by omega) hno⟩
            refine awp_own (congrArg (fun z : List TFeedItem => [Own.arr v 43 5 (z.map TFeedItem.cs)]) e191.symm) ?_
            refine awp_skip ?_
            refine awp_seq ?_
            refine awp_seq ?_
            refine awp_region ?_
            refine sq_plain rfl rfl rfl (w_move rfl (ev_tmp rfl)) ?_
            refine sq_plain rfl rfl rfl (w_move rfl (ev_tmp rfl)) ?_
            refine sq_plain rfl rfl rfl (w_lss rfl (ev_tmp rfl) (ev_tmp rfl)) ?_
            refine sq_plain rfl rfl rfl (w_move rfl (ev_tmp rfl)) ?_
            refine sq_grd rfl rfl (guard_t rfl rfl rfl) (fun hc => w_move rfl (ev_tmp rfl)) ?_
            refine sq_grd rfl rfl (guard_t rfl rfl rfl) (fun hc => w_move rfl (ev_tmp rfl)) ?_
            refine sq_grd rfl rfl (guard_t rfl rfl rfl) (fun hc => w_lss rfl (ev_whn rfl hc) (ev_whn rfl hc)) ?_
            refine sq_plain rfl rfl rfl (w_and rfl (ev_tmp rfl) (evif_w rfl)) ?_
            refine sq_nil ?_
            refine awp_cond (ev_tmp rfl) ?_ ?_
            · intro h199
              simp only [Bool.and_eq_true, decide_eq_true_eq] at h199
              have hl1 := ok191.1.len
              have hm1 : s + (mid + m - s - m) = mid := by omega
              have t1 : SortedOn (fun x y => decide (f x y < 0)) x191 a s := ok191.2.s1 (by omega) (by omega) s1
              have t2 : SortedOn (fun x y => decide (f x y < 0)) x191 s mid := (by have h9 := ok191.2.s2 (by omega) (by omega) (by omega) s2; rw [hm1] at h9; exact h9)
              refine awp_region ?_
              refine sq_plain rfl rfl rfl (w_move rfl (ev_tmp rfl)) ?_
              refine sq_plain rfl rfl rfl (w_move rfl (ev_tmp rfl)) ?_
              refine sq_plain rfl rfl rfl (w_move rfl (ev_tmp rfl)) ?_
              refine sq_plain rfl rfl rfl (w_move rfl (ev_tmp rfl)) ?_
              refine sq_plain rfl rfl rfl (w_move rfl (ev_tmp rfl)) ?_
              refine sq_callG [0] rfl rfl rfl rfl Try.call50 rfl (ih x191 a s mid (by omega) (by omega) (by omega) (by omega) (by omega) t1 t2) (evl_cons (ev_tmp rfl) (evl_cons (ev_tmp rfl) (evl_cons (ev_tmp rfl) (evl_cons (ev_tmp (congrArg (fun z => some (AV.int z)) hmid)) (evl_cons (ev_tmp rfl) evl_nil))))) rfl ?_
              intro x205 ok205
              refine sq_nil ?_
              refine awp_seq ?_
              refine awp_region ?_
              refine sq_plain rfl rfl rfl (w_move rfl (ev_tmp rfl)) ?_
              refine sq_plain rfl rfl rfl (w_move rfl (ev_tmp rfl)) ?_
              refine sq_plain rfl rfl rfl (w_lss rfl (ev_tmp rfl) (ev_tmp rfl)) ?_
              refine sq_plain rfl rfl rfl (w_move rfl (ev_tmp rfl)) ?_
              refine sq_grd rfl rfl (guard_t rfl rfl rfl) (fun hc => w_move rfl (ev_tmp rfl)) ?_
              refine sq_grd rfl rfl (guard_t rfl rfl rfl) (fun hc => w_move rfl (ev_tmp rfl)) ?_
              refine sq_grd rfl rfl (guard_t rfl rfl rfl) (fun hc => w_lss rfl (ev_whn rfl hc) (ev_whn rfl hc)) ?_
              refine sq_plain rfl rfl rfl (w_and rfl (ev_tmp rfl) (evif_w rfl)) ?_
              refine sq_nil ?_
              refine awp_cond (ev_tmp rfl) ?_ ?_
              · intro h213
                simp only [Bool.and_eq_true, decide_eq_true_eq] at h213
                have hl2 := ok205.1.len
                have t3 : SortedOn (fun x y => decide (f x y < 0)) x205 mid (mid + m - s) := ok205.1.sorted_out (.inr (Nat.le_refl _)) (by have h9 := ok191.2.s3 (by omega) (by omega) (by omega) s1; rw [hm1] at h9; exact h9)
                have t4 : SortedOn (fun x y => decide (f x y < 0)) x205 (mid + m - s) b := ok205.1.sorted_out (.inr (by omega)) (ok191.2.s4 (by omega) (by omega) s2)
                refine awp_region ?_
                refine sq_plain rfl rfl rfl (w_move rfl (ev_tmp rfl)) ?_
                refine sq_plain rfl rfl rfl (w_move rfl (ev_tmp rfl)) ?_
                refine sq_plain rfl rfl rfl (w_move rfl (ev_tmp rfl)) ?_
                refine sq_plain rfl rfl rfl (w_move rfl (ev_tmp rfl)) ?_
                refine sq_plain rfl rfl rfl (w_move rfl (ev_tmp rfl)) ?_
                refine sq_callG [0] rfl rfl rfl rfl Try.call50 rfl (ih x205 mid (mid + m - s) b (by omega) (by omega) (by omega) (by omega) (by omega) t3 t4) (evl_cons (ev_tmp rfl) (evl_cons (ev_tmp (congrArg (fun z => some (AV.int z)) hmid)) (evl_cons (ev_tmp (congrArg (fun z => some (AV.int z)) (by rw [hmid]; omega))) (evl_cons (ev_tmp rfl) (evl_cons (ev_tmp rfl) evl_nil))))) rfl ?_
                intro x219 ok219
                refine sq_nil ?_
                first | exact retG [0] (upR l a (j - 1 - a)) (⟨shuf_upR (by omega) (Nat.le_refl _) (by omega), by have h9 := sorted_up hs (l := l) (a := a) (q := j) (b := b) (by omega) (by omega) hb (by rw [← ham1]; exact s2) hinv0.2.1 (by rw [← ham1]; exact hinv0.2.2); rw [show j - (a + 1) = j - 1 - a by omega] at h9; exact h9⟩) rfl (by rfl) (resN rfl (by decide) rv_nil) | exact retG [0] (downR l m (m - k)) (⟨shuf_downR (by omega) (by omega) (by omega) (by omega), by rw [hbm1]; exact sorted_down hs (by omega) (by omega) (by omega) s1 hinv0.2.1 hinv0.2.2⟩) rfl (by rfl) (resN rfl (by decide) rv_nil) | exact retG [0] (x219) (⟨((ok191.1.wide (by omega) (by omega)).trans (ok205.1.wide (Nat.le_refl _) (by omega))).trans (ok219.1.wide (by omega) (Nat.le_refl _)), sorted_glue (ok219.1.sorted_out (.inl (Nat.le_refl _)) ok205.2) ok219.2 (ok219.1.cross2 (ok205.1.cross1 (by have h9 := rot_cross hs ok191.2 (by omega) (by omega) (by omega) (by omega) s1 s2 hc1 hc2; rw [hm1] at h9; exact h9)))⟩) rfl (by rfl) (resN rfl (by decide) rv_nil)
              · intro h213
                have hl2 := ok205.1.len
                have t3 : SortedOn (fun x y => decide (f x y < 0)) x205 mid (mid + m - s) := ok205.1.sorted_out (.inr (Nat.le_refl _)) (by have h9 := ok191.2.s3 (by omega) (by omega) (by omega) s1; rw [hm1] at h9; exact h9)
                have t4 : SortedOn (fun x y => decide (f x y < 0)) x205 (mid + m - s) b := ok205.1.sorted_out (.inr (by omega)) (ok191.2.s4 (by omega) (by omega) s2)
                have hno3 : mid + m - s = mid ∨ mid + m - s = b := by (rw [hmid] at h213; rw [Bool.and_eq_false_iff, decide_eq_false_iff_not, decide_eq_false_iff_not] at h213; omega)
                obtain ⟨x219, e219, ok219⟩ : ∃ z : List TFeedItem, z = x205 ∧ (Shuf x205 z mid b ∧ SortedOn (fun x y => decide (f x y < 0)) z mid b) := ⟨x205, rfl, Shuf.refl _ _ _, by (rcases hno3 with e | e); (rw [e] at t4; exact t4); (rw [e] at t3; exact t3)⟩
                refine awp_own (congrArg (fun z : List TFeedItem => [Own.arr v 43 5 (z.map TFeedItem.cs)]) e219.symm) ?_
                refine awp_skip ?_
                first | exact retG [0] (upR l a (j - 1 - a)) (⟨shuf_upR (by omega) (Nat.le_refl _) (by omega), by have h9 := sorted_up hs (l := l) (a := a) (q := j) (b := b) (by omega) (by omega) hb (by rw [← ham1]; exact s2) hinv0.2.1 (by rw [← ham1]; exact hinv0.2.2); rw [show j - (a + 1) = j - 1 - a by omega] at h9; exact h9⟩) rfl (by rfl) (resN rfl (by decide) rv_nil) | exact retG [0] (downR l m (m - k)) (⟨shuf_downR (by omega) (by omega) (by omega) (by omega), by rw [hbm1]; exact sorted_down hs (by omega) (by omega) (by omega) s1 hinv0.2.1 hinv0.2.2⟩) rfl (by rfl) (resN rfl (by decide) rv_nil) | exact retG [0] (x219) (⟨((ok191.1.wide (by omega) (by omega)).trans (ok205.1.wide (Nat.le_refl _) (by omega))).trans (ok219.1.wide (by omega) (Nat.le_refl _)), sorted_glue (ok219.1.sorted_out (.inl (Nat.le_refl _)) ok205.2) ok219.2 (ok219.1.cross2 (ok205.1.cross1 (by have h9 := rot_cross hs ok191.2 (by omega) (by omega) (by omega) (by omega) s1 s2 hc1 hc2; rw [hm1] at h9; exact h9)))⟩) rfl (by rfl) (resN rfl (by decide) rv_nil)
            · intro h199
              have hl1 := ok191.1.len
              have hm1 : s + (mid + m - s - m) = mid := by omega
              have t1 : SortedOn (fun x y => decide (f x y < 0)) x191 a s := ok191.2.s1 (by omega) (by omega) s1
              have t2 : SortedOn (fun x y => decide (f x y < 0)) x191 s mid := (by have h9 := ok191.2.s2 (by omega) (by omega) (by omega) s2; rw [hm1] at h9; exact h9)
              have hno2 : s = a ∨ s = mid := by (rw [hmid] at h199; rw [Bool.and_eq_false_iff, decide_eq_false_iff_not, decide_eq_false_iff_not] at h199; omega)
              obtain ⟨x205, e205, ok205⟩ : ∃ z : List TFeedItem, z = x191 ∧ (Shuf x191 z a mid ∧ SortedOn (fun x y => decide (f x y < 0)) z a mid) := ⟨x191, rfl, Shuf.refl _ _ _, by (rcases hno2 with e | e); (rw [e] at t2; exact t2); (rw [e] at t1; exact t1)⟩
              refine awp_own (congrArg (fun z : List TFeedItem => [Own.arr v 43 5 (z.map TFeedItem.cs)]) e205.symm) ?_
              refine awp_skip ?_
              refine awp_seq ?_
              refine awp_region ?_
              refine sq_plain rfl rfl rfl (w_move rfl (ev_tmp rfl)) ?_
              refine sq_plain rfl rfl rfl (w_move rfl (ev_tmp rfl)) ?_
              refine sq_plain rfl rfl rfl (w_lss rfl (ev_tmp rfl) (ev_tmp rfl)) ?_
              refine sq_plain rfl rfl rfl (w_move rfl (ev_tmp rfl)) ?_
              refine sq_grd rfl rfl (guard_t rfl rfl rfl) (fun hc => w_move rfl (ev_tmp rfl)) ?_
              refine sq_grd rfl rfl (guard_t rfl rfl rfl) (fun hc => w_move rfl (ev_tmp rfl)) ?_
              refine sq_grd rfl rfl (guard_t rfl rfl rfl) (fun hc => w_lss rfl (ev_whn rfl hc) (ev_whn rfl hc)) ?_
              refine sq_plain rfl rfl rfl (w_and rfl (ev_tmp rfl) (evif_w rfl)) ?_
              refine sq_nil ?_
              refine awp_cond (ev_tmp rfl) ?_ ?_
              · intro h213
                simp only [Bool.and_eq_true, decide_eq_true_eq] at h213
                have hl2 := ok205.1.len
                have t3 : SortedOn (fun x y => decide (f x y < 0)) x205 mid (mid + m - s) := ok205.1.sorted_out (.inr (Nat.le_refl _)) (by have h9 := ok191.2.s3 (by omega) (by omega) (by omega) s1; rw [hm1] at h9; exact h9)
                have t4 : SortedOn (fun x y => decide (f x y < 0)) x205 (mid + m - s) b := ok205.1.sorted_out (.inr (by omega)) (ok191.2.s4 (by omega) (by omega) s2)
                refine awp_region ?_
                refine sq_plain rfl rfl rfl (w_move rfl (ev_tmp rfl)) ?_
                refine sq_plain rfl rfl rfl (w_move rfl (ev_tmp rfl)) ?_
                refine sq_plain rfl rfl rfl (w_move rfl (ev_tmp rfl)) ?_
                refine sq_plain rfl rfl rfl (w_move rfl (ev_tmp rfl)) ?_
                refine sq_plain rfl rfl rfl (w_move rfl (ev_tmp rfl)) ?_
                refine sq_callG [0] rfl rfl rfl rfl Try.call50 rfl (ih x205 mid (mid + m - s) b (by omega) (by omega) (by omega) (by omega) (by omega) t3 t4) (evl_cons (ev_tmp rfl) (evl_cons (ev_tmp (congrArg (fun z => some (AV.int z)) hmid)) (evl_cons (ev_tmp (congrArg (fun z => some (AV.int z)) (by rw [hmid]; omega))) (evl_cons (ev_tmp rfl) (evl_cons (ev_tmp rfl) evl_nil))))) rfl ?_
                intro x219 ok219
                refine sq_nil ?_
                first | exact retG [0] (upR l a (j - 1 - a)) (⟨shuf_upR (by omega) (Nat.le_refl _) (by omega), by have h9 := sorted_up hs (l := l) (a := a) (q := j) (b := b) (by omega) (by omega) hb (by rw [← ham1]; exact s2) hinv0.2.1 (by rw [← ham1]; exact hinv0.2.2); rw [show j - (a + 1) = j - 1 - a by omega] at h9; exact h9⟩) rfl (by rfl) (resN rfl (by decide) rv_nil) | exact retG [0] (downR l m (m - k)) (⟨shuf_downR (by omega) (by omega) (by omega) (by omega), by rw [hbm1]; exact sorted_down hs (by omega) (by omega) (by omega) s1 hinv0.2.1 hinv0.2.2⟩) rfl (by rfl) (resN rfl (by decide) rv_nil) | exact retG [0] (x219) (⟨((ok191.1.wide (by omega) (by omega)).trans (ok205.1.wide (Nat.le_refl _) (by omega))).trans (ok219.1.wide (by omega) (Nat.le_refl _)), sorted_glue (ok219.1.sorted_out (.inl (Nat.le_refl _)) ok205.2) ok219.2 (ok219.1.cross2 (ok205.1.cross1 (by have h9 := rot_cross hs ok191.2 (by omega) (by omega) (by omega) (by omega) s1 s2 hc1 hc2; rw [hm1] at h9; exact h9)))⟩) rfl (by rfl) (resN rfl (by decide) rv_nil)
              · intro h213
                have hl2 := ok205.1.len
                have t3 : SortedOn (fun x y => decide (f x y < 0)) x205 mid (mid + m - s) := ok205.1.sorted_out (.inr (Nat.le_refl _)) (by have h9 := ok191.2.s3 (by omega) (by omega) (by omega) s1; rw [hm1] at h9; exact h9)
                have t4 : SortedOn (fun x y => decide (f x y < 0)) x205 (mid + m - s) b := ok205.1.sorted_out (.inr (by omega)) (ok191.2.s4 (by omega) (by omega) s2)
                have hno3 : mid + m - s = mid ∨ mid + m - s = b := by (rw [hmid] at h213; rw [Bool.and_eq_false_iff, decide_eq_false_iff_not, decide_eq_false_iff_not] at h213; omega)
                obtain ⟨x219, e219, ok219⟩ : ∃ z : List TFeedItem, z = x205 ∧ (Shuf x205 z mid b ∧ SortedOn (fun x y => decide (f x y < 0)) z mid b) := ⟨x205, rfl, Shuf.refl _ _ _, by (rcases hno3 with e | e); (rw [e] at t4; exact t4); (rw [e] at t3; exact t3)⟩
                refine awp_own (congrArg (fun z : List TFeedItem => [Own.arr v 43 5 (z.map TFeedItem.cs)]) e219.symm) ?_
                refine awp_skip ?_
                first | exact retG [0] (upR l a (j - 1 - a)) (⟨shuf_upR (by omega) (Nat.le_refl _) (by omega), by have h9 := sorted_up hs (l := l) (a := a) (q := j) (b := b) (by omega) (by omega) hb (by rw [← ham1]; exact s2) hinv0.2.1 (by rw [← ham1]; exact hinv0.2.2); rw [show j - (a + 1) = j - 1 - a by omega] at h9; exact h9⟩) rfl (by rfl) (resN rfl (by decide) rv_nil) | exact retG [0] (downR l m (m - k)) (⟨shuf_downR (by omega) (by omega) (by omega) (by omega), by rw [hbm1]; exact sorted_down hs (by omega) (by omega) (by omega) s1 hinv0.2.1 hinv0.2.2⟩) rfl (by rfl) (resN rfl (by decide) rv_nil) | exact retG [0] (x219) (⟨((ok191.1.wide (by omega) (by omega)).trans (ok205.1.wide (Nat.le_refl _) (by omega))).trans (ok219.1.wide (by omega) (Nat.le_refl _)), sorted_glue (ok219.1.sorted_out (.inl (Nat.le_refl _)) ok205.2) ok219.2 (ok219.1.cross2 (ok205.1.cross1 (by have h9 := rot_cross hs ok191.2 (by omega) (by omega) (by omega) (by omega) s1 s2 hc1 hc2; rw [hm1] at h9; exact h9)))⟩) rfl (by rfl) (resN rfl (by decide) rv_nil)
      · intro h140
        have k140 := of_decide_eq_false h140; try simp only [List.length_map] at k140
        obtain ⟨s0, hs0⟩ : ∃ s0 : Nat, s0 = a := ⟨_, rfl⟩
        obtain ⟨r0, hr0⟩ : ∃ r0 : Nat, r0 = m := ⟨_, rfl⟩
        refine awp_seq ?_
        refine awp_region ?_
        refine sq_plain rfl rfl rfl (w_move rfl (ev_tmp rfl)) ?_
        refine sq_plain rfl rfl rfl (w_assign rfl (ev_tmp rfl)) ?_
        refine sq_nil ?_
        refine awp_region ?_
        refine sq_plain rfl rfl rfl (w_move rfl (ev_tmp rfl)) ?_
        refine sq_plain rfl rfl rfl (w_assign rfl (ev_tmp rfl)) ?_
        refine sq_nil ?_
        refine awp_seq ?_
        refine awp_region ?_
        refine sq_plain rfl rfl rfl (w_move rfl (ev_tmp rfl)) ?_
        refine sq_plain rfl rfl rfl (w_subi rfl (ev_tmp rfl) ev_ci (by first | omega | ((try simp only [List.length_map, List.length_take, List.length_cons, List.length_nil, chunks_len, szR] at *); omega) | (have hc2 := hc; simp only [Bool.and_eq_true, Bool.or_eq_true, Bool.or_eq_false_iff, Bool.and_eq_false_iff, Bool.not_eq_true', Bool.not_eq_false', decide_eq_true_eq, decide_eq_false_iff_not, beq_iff_eq, bne_iff_ne, List.length_map, List.length_take] at hc2; omega))) ?_
        refine sq_plain rfl rfl rfl (w_assign rfl (ev_tmp rfl)) ?_
        refine sq_nil ?_
        refine awp_seq ?_
        refine awp_block ?_
        refine awp_loop_i2 [(0, _), (1, _), (2, _), (3, _), (4, _), (18, _), (19, _), (22, _)] _ (fun (s : Nat) (r : Nat) => (s0 ≤ s ∧ s ≤ r ∧ r ≤ r0) ∧ (s = s0 ∨ ∃ x y, l[s - 1]? = some x ∧ l[mid + m - s]? = some y ∧ decide (f y x < 0) = false) ∧ (r = r0 ∨ ∃ x y, l[mid + m - 1 - r]? = some x ∧ l[r]? = some y ∧ decide (f x y < 0) = true)) (fun (s : Nat) (r : Nat) => [.arr v 43 5 (l.map TFeedItem.cs)]) (fun (s : Nat) (r : Nat) => [(20, AV.int s), (21, AV.int r)]) (fun (s : Nat) (r : Nat) => r - s) (s0) (r0) ?_ (le_eq (by rfl) ⟨congrArg (fun z => some (AV.int z)) (by omega), congrArg (fun z => some (AV.int z)) (by omega), rfl, rfl, rfl, rfl, rfl, rfl, rfl, rfl, trivial⟩) ?_
        · exact ⟨by omega, .inl rfl, .inl rfl⟩
        intro s r hinv
        refine awp_seq ?_
        refine awp_seq ?_
        refine awp_region ?_
        refine sq_plain rfl rfl rfl (w_move rfl (ev_tmp rfl)) ?_
        refine sq_plain rfl rfl rfl (w_move rfl (ev_tmp rfl)) ?_
        refine sq_plain rfl rfl rfl (w_lss rfl (ev_tmp rfl) (ev_tmp rfl)) ?_
        refine sq_nil ?_
        refine awp_cond (ev_tmp rfl) ?_ ?_
        · intro h151
          have k151 := of_decide_eq_true h151; try simp only [List.length_map] at k151
          have hmid2 := mid_eq s r (by omega)
          obtain ⟨x, hx⟩ := get_some (show mid + m - 1 - (s + r) / 2 < l.length by omega)
          obtain ⟨y, hy⟩ := get_some (show (s + r) / 2 < l.length by omega)
          refine awp_skip ?_
          refine awp_block ?_
          refine awp_seq ?_
          refine awp_region ?_
          refine sq_plain rfl rfl rfl (w_move rfl (ev_tmp rfl)) ?_
          refine sq_plain rfl rfl rfl (w_move rfl (ev_tmp rfl)) ?_
          refine sq_plain rfl rfl rfl (w_addi rfl (ev_tmp rfl) (ev_tmp rfl) (by first | omega | ((try simp only [List.length_map, List.length_take, List.length_cons, List.length_nil, chunks_len, szR] at *); omega) | (have hc2 := hc; simp only [Bool.and_eq_true, Bool.or_eq_true, Bool.or_eq_false_iff, Bool.and_eq_false_iff, Bool.not_eq_true', Bool.not_eq_false', decide_eq_true_eq, decide_eq_false_iff_not, beq_iff_eq, bne_iff_ne, List.length_map, List.length_take] at hc2; omega))) ?_
          refine sq_plain rfl rfl rfl (w_conv rfl (by kernel_rfl) Try.underlying80 (ev_tmp rfl)) ?_
          refine sq_plain rfl rfl rfl (w_shr rfl (ev_tmp rfl) ev_ci (by decide) (by decide)) ?_
          refine sq_plain rfl rfl rfl (w_conv rfl (by kernel_rfl) Try.underlying3 (ev_tmp rfl)) ?_
          refine sq_plain rfl rfl rfl (w_assign rfl (ev_tmp rfl)) ?_
          refine sq_nil ?_
          refine awp_seq ?_
          refine awp_region_any (by kernel_rfl) (by kernel_rfl) rfl ?_
          refine ch_plain rfl rfl (w_move rfl (ev_tmp rfl)) ?_
          refine ch_plain rfl rfl (w_move rfl (ev_tmp rfl)) ?_
          refine ch_plain rfl rfl (w_move rfl (ev_tmp rfl)) ?_
          refine ch_plain rfl rfl (w_move rfl (ev_tmp rfl)) ?_
          refine ch_plain rfl rfl (w_subi rfl (ev_tmp rfl) (ev_tmp rfl) (by first | omega | ((try simp only [List.length_map, List.length_take, List.length_cons, List.length_nil, chunks_len, szR] at *); omega) | (have hc2 := hc; simp only [Bool.and_eq_true, Bool.or_eq_true, Bool.or_eq_false_iff, Bool.and_eq_false_iff, Bool.not_eq_true', Bool.not_eq_false', decide_eq_true_eq, decide_eq_false_iff_not, beq_iff_eq, bne_iff_ne, List.length_map, List.length_take] at hc2; omega))) ?_
          refine ch_plain rfl rfl (w_aidx 0 rfl Try.underlying24 Try.sizeOf43 (ev_tmp rfl) rfl (ev_tmp rfl) (by first | omega | ((try simp only [List.length_map, List.length_take, List.length_cons, List.length_nil, chunks_len, szR] at *); omega) | (have hc2 := hc; simp only [Bool.and_eq_true, Bool.or_eq_true, Bool.or_eq_false_iff, Bool.and_eq_false_iff, Bool.not_eq_true', Bool.not_eq_false', decide_eq_true_eq, decide_eq_false_iff_not, beq_iff_eq, bne_iff_ne, List.length_map, List.length_take] at hc2; omega)) (by first | omega | ((try simp only [List.length_map, List.length_take, List.length_cons, List.length_nil, chunks_len, szR] at *); omega) | (have hc2 := hc; simp only [Bool.and_eq_true, Bool.or_eq_true, Bool.or_eq_false_iff, Bool.and_eq_false_iff, Bool.not_eq_true', Bool.not_eq_false', decide_eq_true_eq, decide_eq_false_iff_not, beq_iff_eq, bne_iff_ne, List.length_map, List.length_take] at hc2; omega))) ?_
          refine ch_plain rfl rfl (w_loadX 0 rfl (ev_tmp rfl) rfl Try.isAgg43 Try.sizeOf43 (by rw [hmid2, hmid, show ((mid : Int) + (m : Int) - 1 - (((s + r) / 2 : Nat) : Int)).toNat = mid + m - 1 - (s + r) / 2 by omega, List.getElem?_map, hx]; rfl) (by decide)) ?_
          refine ch_plain rfl rfl (w_move rfl (ev_tmp rfl)) ?_
          refine ch_plain rfl rfl (w_move rfl (ev_tmp rfl)) ?_
          refine ch_plain rfl rfl (w_aidx 0 rfl Try.underlying24 Try.sizeOf43 (ev_tmp rfl) rfl (ev_tmp rfl) (by first | omega | ((try simp only [List.length_map, List.length_take, List.length_cons, List.length_nil, chunks_len, szR] at *); omega) | (have hc2 := hc; simp only [Bool.and_eq_true, Bool.or_eq_true, Bool.or_eq_false_iff, Bool.and_eq_false_iff, Bool.not_eq_true', Bool.not_eq_false', decide_eq_true_eq, decide_eq_false_iff_not, beq_iff_eq, bne_iff_ne, List.length_map, List.length_take] at hc2; omega)) (by first | omega | ((try simp only [List.length_map, List.length_take, List.length_cons, List.length_nil, chunks_len, szR] at *); omega) | (have hc2 := hc; simp only [Bool.and_eq_true, Bool.or_eq_true, Bool.or_eq_false_iff, Bool.and_eq_false_iff, Bool.not_eq_true', Bool.not_eq_false', decide_eq_true_eq, decide_eq_false_iff_not, beq_iff_eq, bne_iff_ne, List.length_map, List.length_take] at hc2; omega))) ?_
          refine ch_plain rfl rfl (w_loadX 0 rfl (ev_tmp rfl) rfl Try.isAgg43 Try.sizeOf43 (by rw [hmid2, Int.toNat_natCast, List.getElem?_map, hy]; rfl) (by decide)) ?_
          refine ch_plain rfl rfl (w_callv2 rfl (ev_tmp rfl) x y trivial (ev_tmp rfl) (ev_tmp rfl)) ?_
          refine ch_plain rfl rfl (w_lss rfl (ev_tmp rfl) ev_ci) ?_
          refine ch_plain rfl rfl (w_not rfl (ev_tmp rfl)) ?_
          refine ch_nil ?_
          refine awp_cond (ev_tmp rfl) ?_ ?_
          · intro h171
            refine awp_region ?_
            refine sq_plain rfl rfl rfl (w_move rfl (ev_tmp rfl)) ?_
            refine sq_plain rfl rfl rfl (w_addi rfl (ev_tmp rfl) ev_ci (by first | omega | ((try simp only [List.length_map, List.length_take, List.length_cons, List.length_nil, chunks_len, szR] at *); omega) | (have hc2 := hc; simp only [Bool.and_eq_true, Bool.or_eq_true, Bool.or_eq_false_iff, Bool.and_eq_false_iff, Bool.not_eq_true', Bool.not_eq_false', decide_eq_true_eq, decide_eq_false_iff_not, beq_iff_eq, bne_iff_ne, List.length_map, List.length_take] at hc2; omega))) ?_
            refine sq_plain rfl rfl rfl (w_assign rfl (ev_tmp rfl)) ?_
            refine sq_nil ?_
            refine blockN ?_
            refine round_end2 s r ((s + r) / 2 + 1) (r) ?_ ?_ (le_eq (by rfl) ⟨(by first | rfl | exact congrArg (fun z => some (AV.int z)) (by rw [hmid2]; omega)), (by first | rfl | exact congrArg (fun z => some (AV.int z)) hmid2), rfl, rfl, rfl, rfl, rfl, rfl, rfl, rfl, trivial⟩)
            · exact ⟨by omega, .inr ⟨y, x, by rw [Nat.add_sub_cancel]; exact hy, by rw [show mid + m - ((s + r) / 2 + 1) = mid + m - 1 - (s + r) / 2 by omega]; exact hx, by simpa using h171⟩, hinv.2.2⟩
            · omega
          · intro h171
            refine awp_region ?_
            refine sq_plain rfl rfl rfl (w_move rfl (ev_tmp rfl)) ?_
            refine sq_plain rfl rfl rfl (w_assign rfl (ev_tmp rfl)) ?_
            refine sq_nil ?_
            refine blockN ?_
            refine round_end2 s r (s) ((s + r) / 2) ?_ ?_ (le_eq (by rfl) ⟨(by first | rfl | exact congrArg (fun z => some (AV.int z)) (by rw [hmid2]; omega)), (by first | rfl | exact congrArg (fun z => some (AV.int z)) hmid2), rfl, rfl, rfl, rfl, rfl, rfl, rfl, rfl, trivial⟩)
            · exact ⟨by omega, hinv.2.1, .inr ⟨x, y, hx, hy, by simpa using h171⟩⟩
            · omega
        · intro h151
          have k151 := of_decide_eq_false h151; try simp only [List.length_map] at k151
          have hsr : s = r := by omega
          subst hsr
          have hinv0 := hinv
          have hc1 : s = a ∨ mid + m - s = b ∨ ∃ x y, l[s - 1]? = some x ∧ l[mid + m - s]? = some y ∧ decide (f y x < 0) = false := (by rcases hinv0.2.1 with e | e; (by_cases e9 : s = a); exact .inl e9; exact .inr (.inl (by omega)); exact .inr (.inr e))
          have hc2 : s = m ∨ mid + m - s = m ∨ ∃ x y, l[mid + m - s - 1]? = some x ∧ l[s]? = some y ∧ decide (f x y < 0) = true := (by rcases hinv0.2.2 with e | e; (by_cases e9 : s = m); exact .inl e9; exact .inr (.inl (by omega)); exact .inr (.inr (by rw [show mid + m - s - 1 = mid + m - 1 - s by omega]; exact e)))
          refine awp_exit ?_
          refine awp_seq ?_
          refine awp_region ?_
          refine sq_plain rfl rfl rfl (w_move rfl (ev_tmp rfl)) ?_
          refine sq_plain rfl rfl rfl (w_move rfl (ev_tmp rfl)) ?_
          refine sq_plain rfl rfl rfl (w_subi rfl (ev_tmp rfl) (ev_tmp rfl) (by first | omega | ((try simp only [List.length_map, List.length_take, List.length_cons, List.length_nil, chunks_len, szR] at *); omega) | (have hc2 := hc; simp only [Bool.and_eq_true, Bool.or_eq_true, Bool.or_eq_false_iff, Bool.and_eq_false_iff, Bool.not_eq_true', Bool.not_eq_false', decide_eq_true_eq, decide_eq_false_iff_not, beq_iff_eq, bne_iff_ne, List.length_map, List.length_take] at hc2; omega))) ?_
          refine sq_plain rfl rfl rfl (w_assign rfl (ev_tmp rfl)) ?_
          refine sq_nil ?_
          refine awp_seq ?_
          refine awp_seq ?_
          refine awp_region ?_
          refine sq_plain rfl rfl rfl (w_move rfl (ev_tmp rfl)) ?_
          refine sq_plain rfl rfl rfl (w_move rfl (ev_tmp rfl)) ?_
          refine sq_plain rfl rfl rfl (w_lss rfl (ev_tmp rfl) (ev_tmp rfl)) ?_
          refine sq_plain rfl rfl rfl (w_move rfl (ev_tmp rfl)) ?_
          refine sq_grd rfl rfl (guard_t rfl rfl rfl) (fun hc => w_move rfl (ev_tmp rfl)) ?_
          refine sq_grd rfl rfl (guard_t rfl rfl rfl) (fun hc => w_move rfl (ev_tmp rfl)) ?_
          refine sq_grd rfl rfl (guard_t rfl rfl rfl) (fun hc => w_lss rfl (ev_whn rfl hc) (ev_whn rfl hc)) ?_
          refine sq_plain rfl rfl rfl (w_and rfl (ev_tmp rfl) (evif_w rfl)) ?_
          refine sq_nil ?_
          refine awp_cond (ev_tmp rfl) ?_ ?_
          · intro h185
            simp only [Bool.and_eq_true, decide_eq_true_eq] at h185
            refine awp_region ?_
            refine sq_plain rfl rfl rfl (w_move rfl (ev_tmp rfl)) ?_
            refine sq_plain rfl rfl rfl (w_move rfl (ev_tmp rfl)) ?_
            refine sq_plain rfl rfl rfl (w_move rfl (ev_tmp rfl)) ?_
            refine sq_plain rfl rfl rfl (w_move rfl (ev_tmp rfl)) ?_
            refine sq_plain rfl rfl rfl (w_move rfl (ev_tmp rfl)) ?_
            refine sq_callG [0] rfl rfl rfl rfl Try.call61 rfl (rotate_own v l s m (mid + m - s) _ (by omega) (by omega) (by omega) (by omega)) (evl_cons (ev_tmp rfl) (evl_cons (ev_tmp rfl) (evl_cons (ev_tmp rfl) (evl_cons (ev_tmp (congrArg (fun z => some (AV.int z)) (by rw [hmid]; omega))) (evl_cons (ev_tmp rfl) evl_nil))))) rfl ?_
            intro x191 ok191
            refine sq_nil ?_
            refine awp_seq ?_
            refine awp_seq ?_
            refine awp_region ?_
            refine sq_plain rfl rfl rfl (w_move rfl (ev_tmp rfl)) ?_
            refine sq_plain rfl rfl rfl (w_move rfl (ev_tmp rfl)) ?_
            refine sq_plain rfl rfl rfl (w_lss rfl (ev_tmp rfl) (ev_tmp rfl)) ?_
            refine sq_plain rfl rfl rfl (w_move rfl (ev_tmp rfl)) ?_
            refine sq_grd rfl rfl (guard_t rfl rfl rfl) (fun hc => w_move rfl (ev_tmp rfl)) ?_
            refine sq_grd rfl rfl (guard_t rfl rfl rfl) (fun hc => w_move rfl (ev_tmp rfl)) ?_
            refine sq_grd rfl rfl (guard_t rfl rfl rfl) (fun hc => w_lss rfl (ev_whn rfl hc) (ev_whn rfl hc)) ?_
            refine sq_plain rfl rfl rfl (w_and rfl (ev_tmp rfl) (evif_w rfl)) ?_
            refine sq_nil ?_
            refine awp_cond (ev_tmp rfl) ?_ ?_
            · intro h199
              simp only [Bool.and_eq_true, decide_eq_true_eq] at h199
              have hl1 := ok191.1.len
              have hm1 : s + (mid + m - s - m) = mid := by omega
              have t1 : SortedOn (fun x y => decide (f x y < 0)) x191 a s := ok191.2.s1 (by omega) (by omega) s1
              have t2 : SortedOn (fun x y => decide (f x y < 0)) x191 s mid := (by have h9 := ok191.2.s2 (by omega) (by omega) (by omega) s2; rw [hm1] at h9; exact h9)
              refine awp_region ?_
              refine sq_plain rfl rfl rfl (w_move rfl (ev_tmp rfl)) ?_
              refine sq_plain rfl rfl rfl (w_move rfl (ev_tmp rfl)) ?_
              refine sq_plain rfl rfl rfl (w_move rfl (ev_tmp rfl)) ?_
              refine sq_plain rfl rfl rfl (w_move rfl (ev_tmp rfl)) ?_
              refine sq_plain rfl rfl rfl (w_move rfl (ev_tmp rfl)) ?_
              refine sq_callG [0] rfl rfl rfl rfl Try.call50 rfl (ih x191 a s mid (by omega) (by omega) (by omega) (by omega) (by omega) t1 t2) (evl_cons (ev_tmp rfl) (evl_cons (ev_tmp rfl) (evl_cons (ev_tmp rfl) (evl_cons (ev_tmp (congrArg (fun z => some (AV.int z)) hmid)) (evl_cons (ev_tmp rfl) evl_nil))))) rfl ?_
              intro x205 ok205
              refine sq_nil ?_
              refine awp_seq ?_
              refine awp_region ?_
              refine sq_plain rfl rfl rfl (w_move rfl (ev_tmp rfl)) ?_
              refine sq_plain rfl rfl rfl (w_move rfl (ev_tmp rfl)) ?_
              refine sq_plain rfl rfl rfl (w_lss rfl (ev_tmp rfl) (ev_tmp rfl)) ?_
              refine sq_plain rfl rfl rfl (w_move rfl (ev_tmp rfl)) ?_
              refine sq_grd rfl rfl (guard_t rfl rfl rfl) (fun hc => w_move rfl (ev_tmp rfl)) ?_
              refine sq_grd rfl rfl (guard_t rfl rfl rfl) (fun hc => w_move rfl (ev_tmp rfl)) ?_
              refine sq_grd rfl rfl (guard_t rfl rfl rfl) (fun hc => w_lss rfl (ev_whn rfl hc) (ev_whn rfl hc)) ?_
              refine sq_plain rfl rfl rfl (w_and rfl (ev_tmp rfl) (evif_w rfl)) ?_
              refine sq_nil ?_
              refine awp_cond (ev_tmp rfl) ?_ ?_
              · intro h213
                simp only [Bool.and_eq_true, decide_eq_true_eq] at h213
                have hl2 := ok205.1.len
                have t3 : SortedOn (fun x y => decide (f x y < 0)) x205 mid (mid + m - s) := ok205.1.sorted_out (.inr (Nat.le_refl _)) (by have h9 := ok191.2.s3 (by omega) (by omega) (by omega) s1; rw [hm1] at h9; exact h9)
                have t4 : SortedOn (fun x y => decide (f x y < 0)) x205 (mid + m - s) b := ok205.1.sorted_out (.inr (by omega)) (ok191.2.s4 (by omega) (by omega) s2)
                refine awp_region ?_
                refine sq_plain rfl rfl rfl (w_move rfl (ev_tmp rfl)) ?_
                refine sq_plain rfl rfl rfl (w_move rfl (ev_tmp rfl)) ?_
                refine sq_plain rfl rfl rfl (w_move rfl (ev_tmp rfl)) ?_
                refine sq_plain rfl rfl rfl (w_move rfl (ev_tmp rfl)) ?_
                refine sq_plain rfl rfl rfl (w_move rfl (ev_tmp rfl)) ?_
                refine sq_callG [0] rfl rfl rfl rfl Try.call50 rfl (ih x205 mid (mid + m - s) b (by omega) (by omega) (by omega) (by omega) (by omega) t3 t4) (evl_cons (ev_tmp rfl) (evl_cons (ev_tmp (congrArg (fun z => some (AV.int z)) hmid)) (evl_cons (ev_tmp (congrArg (fun z => some (AV.int z)) (by rw [hmid]; omega))) (evl_cons (ev_tmp rfl) (evl_cons (ev_tmp rfl) evl_nil))))) rfl ?_
                intro x219 ok219
                refine sq_nil ?_
                first | exact retG [0] (upR l a (j - 1 - a)) (⟨shuf_upR (by omega) (Nat.le_refl _) (by omega), by have h9 := sorted_up hs (l := l) (a := a) (q := j) (b := b) (by omega) (by omega) hb (by rw [← ham1]; exact s2) hinv0.2.1 (by rw [← ham1]; exact hinv0.2.2); rw [show j - (a + 1) = j - 1 - a by omega] at h9; exact h9⟩) rfl (by rfl) (resN rfl (by decide) rv_nil) | exact retG [0] (downR l m (m - k)) (⟨shuf_downR (by omega) (by omega) (by omega) (by omega), by rw [hbm1]; exact sorted_down hs (by omega) (by omega) (by omega) s1 hinv0.2.1 hinv0.2.2⟩) rfl (by rfl) (resN rfl (by decide) rv_nil) | exact retG [0] (x219) (⟨((ok191.1.wide (by omega) (by omega)).trans (ok205.1.wide (Nat.le_refl _) (by omega))).trans (ok219.1.wide (by omega) (Nat.le_refl _)), sorted_glue (ok219.1.sorted_out (.inl (Nat.le_refl _)) ok205.2) ok219.2 (ok219.1.cross2 (ok205.1.cross1 (by have h9 := rot_cross hs ok191.2 (by omega) (by omega) (by omega) (by omega) s1 s2 hc1 hc2; rw [hm1] at h9; exact h9)))⟩) rfl (by rfl) (resN rfl (by decide) rv_nil)
              · intro h213
                have hl2 := ok205.1.len
                have t3 : SortedOn (fun x y => decide (f x y < 0)) x205 mid (mid + m - s) := ok205.1.sorted_out (.inr (Nat.le_refl _)) (by have h9 := ok191.2.s3 (by omega) (by omega) (by omega) s1; rw [hm1] at h9; exact h9)
                have t4 : SortedOn (fun x y => decide (f x y < 0)) x205 (mid + m - s) b := ok205.1.sorted_out (.inr (by omega)) (ok191.2.s4 (by omega) (by omega) s2)
                have hno3 : mid + m - s = mid ∨ mid + m - s = b := by (rw [hmid] at h213; rw [Bool.and_eq_false_iff, decide_eq_false_iff_not, decide_eq_false_iff_not] at h213; omega)
                obtain ⟨x219, e219, ok219⟩ : ∃ z : List TFeedItem, z = x205 ∧ (Shuf x205 z mid b ∧ SortedOn (fun x y => decide (f x y < 0)) z mid b) := ⟨x205, rfl, Shuf.refl _ _ _, by (rcases hno3 with e | e); (rw [e] at t4; exact t4); (rw [e] at t3; exact t3)⟩
                refine awp_own (congrArg (fun z : List TFeedItem => [Own.arr v 43 5 (z.map TFeedItem.cs)]) e219.symm) ?_
                refine awp_skip ?_
                first | exact retG [0] (upR l a (j - 1 - a)) (⟨shuf_upR (by omega) (Nat.le_refl _) (by omega), by have h9 := sorted_up hs (l := l) (a := a) (q := j) (b := b) (by omega) (by omega) hb (by rw [← ham1]; exact s2) hinv0.2.1 (by rw [← ham1]; exact hinv0.2.2); rw [show j - (a + 1) = j - 1 - a by omega] at h9; exact h9⟩) rfl (by rfl) (resN rfl (by decide) rv_nil) | exact retG [0] (downR l m (m - k)) (⟨shuf_downR (by omega) (by omega) (by omega) (by omega), by rw [hbm1]; exact sorted_down hs (by omega) (by omega) (by omega) s1 hinv0.2.1 hinv0.2.2⟩) rfl (by rfl) (resN rfl (by decide) rv_nil) | exact retG [0] (x219) (⟨((ok191.1.wide (by omega) (by omega)).trans (ok205.1.wide (Nat.le_refl _) (by omega))).trans (ok219.1.wide (by omega) (Nat.le_refl _)), sorted_glue (ok219.1.sorted_out (.inl (Nat.le_refl _)) ok205.2) ok219.2 (ok219.1.cross2 (ok205.1.cross1 (by have h9 := rot_cross hs ok191.2 (by omega) (by omega) (by omega) (by omega) s1 s2 hc1 hc2; rw [hm1] at h9; exact h9)))⟩) rfl (by rfl) (resN rfl (by decide) rv_nil)
            · intro h199
              have hl1 := ok191.1.len
              have hm1 : s + (mid + m - s - m) = mid := by omega
              have t1 : SortedOn (fun x y => decide (f x y < 0)) x191 a s := ok191.2.s1 (by omega) (by omega) s1
              have t2 : SortedOn (fun x y => decide (f x y < 0)) x191 s mid := (by have h9 := ok191.2.s2 (by omega) (by omega) (by omega) s2; rw [hm1] at h9; exact h9)
              have hno2 : s = a ∨ s = mid := by (rw [hmid] at h199; rw [Bool.and_eq_false_iff, decide_eq_false_iff_not, decide_eq_false_iff_not] at h199; omega)
              obtain ⟨x205, e205, ok205⟩ : ∃ z : List TFeedItem, z = x191 ∧ (Shuf x191 z a mid ∧ SortedOn (fun x y => decide (f x y < 0)) z a mid) := ⟨x191, rfl, Shuf.refl _ _ _, by (rcases hno2 with e | e); (rw [e] at t2; exact t2); (rw [e] at t1; exact t1)⟩
              refine awp_own (congrArg (fun z : List TFeedItem => [Own.arr v 43 5 (z.map TFeedItem.cs)]) e205.symm) ?_
              refine awp_skip ?_
              refine awp_seq ?_
              refine awp_region ?_
              refine sq_plain rfl rfl rfl (w_move rfl (ev_tmp rfl)) ?_
              refine sq_plain rfl rfl rfl (w_move rfl (ev_tmp rfl)) ?_
              refine sq_plain rfl rfl rfl (w_lss rfl (ev_tmp rfl) (ev_tmp rfl)) ?_
              refine sq_plain rfl rfl rfl (w_move rfl (ev_tmp rfl)) ?_
              refine sq_grd rfl rfl (guard_t rfl rfl rfl) (fun hc => w_move rfl (ev_tmp rfl)) ?_
              refine sq_grd rfl rfl (guard_t rfl rfl rfl) (fun hc => w_move rfl (ev_tmp rfl)) ?_
              refine sq_grd rfl rfl (guard_t rfl rfl rfl) (fun hc => w_lss rfl (ev_whn rfl hc) (ev_whn rfl hc)) ?_
              refine sq_plain rfl rfl rfl (w_and rfl (ev_tmp rfl) (evif_w rfl)) ?_
              refine sq_nil ?_
              refine awp_cond (ev_tmp rfl) ?_ ?_
              · intro h213
                simp only [Bool.and_eq_true, decide_eq_true_eq] at h213
                have hl2 := ok205.1.len
                have t3 : SortedOn (fun x y => decide (f x y < 0)) x205 mid (mid + m - s) := ok205.1.sorted_out (.inr (Nat.le_refl _)) (by have h9 := ok191.2.s3 (by omega) (by omega) (by omega) s1; rw [hm1] at h9; exact h9)
                have t4 : SortedOn (fun x y => decide (f x y < 0)) x205 (mid + m - s) b := ok205.1.sorted_out (.inr (by omega)) (ok191.2.s4 (by omega) (by omega) s2)
                refine awp_region ?_
                refine sq_plain rfl rfl rfl (w_move rfl (ev_tmp rfl)) ?_
                refine sq_plain rfl rfl rfl (w_move rfl (ev_tmp rfl)) ?_
                refine sq_plain rfl rfl rfl (w_move rfl (ev_tmp rfl)) ?_
                refine sq_plain rfl rfl rfl (w_move rfl (ev_tmp rfl)) ?_
                refine sq_plain rfl rfl rfl (w_move rfl (ev_tmp rfl)) ?_
                refine sq_callG [0] rfl rfl rfl rfl Try.call50 rfl (ih x205 mid (mid + m - s) b (by omega) (by omega) (by omega) (by omega) (by omega) t3 t4) (evl_cons (ev_tmp rfl) (evl_cons (ev_tmp (congrArg (fun z => some (AV.int z)) hmid)) (evl_cons (ev_tmp (congrArg (fun z => some (AV.int z)) (by rw [hmid]; omega))) (evl_cons (ev_tmp rfl) (evl_cons (ev_tmp rfl) evl_nil))))) rfl ?_
                intro x219 ok219
                refine sq_nil ?_
                first | exact retG [0] (upR l a (j - 1 - a)) (⟨shuf_upR (by omega) (Nat.le_refl _) (by omega), by have h9 := sorted_up hs (l := l) (a := a) (q := j) (b := b) (by omega) (by omega) hb (by rw [← ham1]; exact s2) hinv0.2.1 (by rw [← ham1]; exact hinv0.2.2); rw [show j - (a + 1) = j - 1 - a by omega] at h9; exact h9⟩) rfl (by rfl) (resN rfl (by decide) rv_nil) | exact retG [0] (downR l m (m - k)) (⟨shuf_downR (by omega) (by omega) (by omega) (by omega), by rw [hbm1]; exact sorted_down hs (by omega) (by omega) (by omega) s1 hinv0.2.1 hinv0.2.2⟩) rfl (by rfl) (resN rfl (by decide) rv_nil) | exact retG [0] (x219) (⟨((ok191.1.wide (by omega) (by omega)).trans (ok205.1.wide (Nat.le_refl _) (by omega))).trans (ok219.1.wide (by omega) (Nat.le_refl _)), sorted_glue (ok219.1.sorted_out (.inl (Nat.le_refl _)) ok205.2) ok219.2 (ok219.1.cross2 (ok205.1.cross1 (by have h9 := rot_cross hs ok191.2 (by omega) (by omega) (by omega) (by omega) s1 s2 hc1 hc2; rw [hm1] at h9; exact h9)))⟩) rfl (by rfl) (resN rfl (by decide) rv_nil)
              · intro h213
                have hl2 := ok205.1.len
                have t3 : SortedOn (fun x y => decide (f x y < 0)) x205 mid (mid + m - s) := ok205.1.sorted_out (.inr (Nat.le_refl _)) (by have h9 := ok191.2.s3 (by omega) (by omega) (by omega) s1; rw [hm1] at h9; exact h9)
                have t4 : SortedOn (fun x y => decide (f x y < 0)) x205 (mid + m - s) b := ok205.1.sorted_out (.inr (by omega)) (ok191.2.s4 (by omega) (by omega) s2)
                have hno3 : mid + m - s = mid ∨ mid + m - s = b := by (rw [hmid] at h213; rw [Bool.and_eq_false_iff, decide_eq_false_iff_not, decide_eq_false_iff_not] at h213; omega)
                obtain ⟨x219, e219, ok219⟩ : ∃ z : List TFeedItem, z = x205 ∧ (Shuf x205 z mid b ∧ SortedOn (fun x y => decide (f x y < 0)) z mid b) := ⟨x205, rfl, Shuf.refl _ _ _, by (rcases hno3 with e | e); (rw [e] at t4; exact t4); (rw [e] at t3; exact t3)⟩
                refine awp_own (congrArg (fun z : List TFeedItem => [Own.arr v 43 5 (z.map TFeedItem.cs)]) e219.symm) ?_
                refine awp_skip ?_
                first | exact retG [0] (upR l a (j - 1 - a)) (⟨shuf_upR (by omega) (Nat.le_refl _) (by omega), by have h9 := sorted_up hs (l := l) (a := a) (q := j) (b := b) (by omega) (by omega) hb (by rw [← ham1]; exact s2) hinv0.2.1 (by rw [← ham1]; exact hinv0.2.2); rw [show j - (a + 1) = j - 1 - a by omega] at h9; exact h9⟩) rfl (by rfl) (resN rfl (by decide) rv_nil) | exact retG [0] (downR l m (m - k)) (⟨shuf_downR (by omega) (by omega) (by omega) (by omega), by rw [hbm1]; exact sorted_down hs (by omega) (by omega) (by omega) s1 hinv0.2.1 hinv0.2.2⟩) rfl (by rfl) (resN rfl (by decide) rv_nil) | exact retG [0] (x219) (⟨((ok191.1.wide (by omega) (by omega)).trans (ok205.1.wide (Nat.le_refl _) (by omega))).trans (ok219.1.wide (by omega) (Nat.le_refl _)), sorted_glue (ok219.1.sorted_out (.inl (Nat.le_refl _)) ok205.2) ok219.2 (ok219.1.cross2 (ok205.1.cross1 (by have h9 := rot_cross hs ok191.2 (by omega) (by omega) (by omega) (by omega) s1 s2 hc1 hc2; rw [hm1] at h9; exact h9)))⟩) rfl (by rfl) (resN rfl (by decide) rv_nil)
          · intro h185
            have hno : s = m ∨ mid + m - s = m := by (rw [hmid] at h185; rw [Bool.and_eq_false_iff, decide_eq_false_iff_not, decide_eq_false_iff_not] at h185; omega)
            obtain ⟨x191, e191, ok191⟩ : ∃ z : List TFeedItem, z = l ∧ (Shuf l z s (mid + m - s) ∧ Rot l z s m (mid + m - s)) := ⟨l, rfl, Shuf.refl _ _ _, rot_none (by omega) (by omega) hno⟩
            refine awp_own (congrArg (fun z : List TFeedItem => [Own.arr v 43 5 (z.map TFeedItem.cs)]) e191.symm) ?_
            refine awp_skip ?_
            refine awp_seq ?_
            refine awp_seq ?_
            refine awp_region ?_
            refine sq_plain rfl rfl rfl (w_move rfl (ev_tmp rfl)) ?_
            refine sq_plain rfl rfl rfl (w_move rfl (ev_tmp rfl)) ?_
            refine sq_plain rfl rfl rfl (w_lss rfl (ev_tmp rfl) (ev_tmp rfl)) ?_
            refine sq_plain rfl rfl rfl (w_move rfl (ev_tmp rfl)) ?_
            refine sq_grd rfl rfl (guard_t rfl rfl rfl) (fun hc => w_move rfl (ev_tmp rfl)) ?_
            refine sq_grd rfl rfl (guard_t rfl rfl rfl) (fun hc => w_move rfl (ev_tmp rfl)) ?_
            refine sq_grd rfl rfl (guard_t rfl rfl rfl) (fun hc => w_lss rfl (ev_whn rfl hc) (ev_whn rfl hc)) ?_
            refine sq_plain rfl rfl rfl (w_and rfl (ev_tmp rfl) (evif_w rfl)) ?_
            refine sq_nil ?_
            refine awp_cond (ev_tmp rfl) ?_ ?_
            · intro h199
              simp only [Bool.and_eq_true, decide_eq_true_eq] at h199
              have hl1 := ok191.1.len
              have hm1 : s + (mid + m - s - m) = mid := by omega
              have t1 : SortedOn (fun x y => decide (f x y < 0)) x191 a s := ok191.2.s1 (by omega) (by omega) s1
              have t2 : SortedOn (fun x y => decide (f x y < 0)) x191 s mid := (by have h9 := ok191.2.s2 (by omega) (by omega) (by omega) s2; rw [hm1] at h9; exact h9)
              refine awp_region ?_
              refine sq_plain rfl rfl rfl (w_move rfl (ev_tmp rfl)) ?_
              refine sq_plain rfl rfl rfl (w_move rfl (ev_tmp rfl)) ?_
              refine sq_plain rfl rfl rfl (w_move rfl (ev_tmp rfl)) ?_
              refine sq_plain rfl rfl rfl (w_move rfl (ev_tmp rfl)) ?_
              refine sq_plain rfl rfl rfl (w_move rfl (ev_tmp rfl)) ?_
              refine sq_callG [0] rfl rfl rfl rfl Try.call50 rfl (ih x191 a s mid (by omega) (by omega) (by omega) (by omega) (by omega) t1 t2) (evl_cons (ev_tmp rfl) (evl_cons (ev_tmp rfl) (evl_cons (ev_tmp rfl) (evl_cons (ev_tmp (congrArg (fun z => some (AV.int z)) hmid)) (evl_cons (ev_tmp rfl) evl_nil))))) rfl ?_
              intro x205 ok205
              refine sq_nil ?_
              refine awp_seq ?_
              refine awp_region ?_
              refine sq_plain rfl rfl rfl (w_move rfl (ev_tmp rfl)) ?_
              refine sq_plain rfl rfl rfl (w_move rfl (ev_tmp rfl)) ?_
              refine sq_plain rfl rfl rfl (w_lss rfl (ev_tmp rfl) (ev_tmp rfl)) ?_
              refine sq_plain rfl rfl rfl (w_move rfl (ev_tmp rfl)) ?_
              refine sq_grd rfl rfl (guard_t rfl rfl rfl) (fun hc => w_move rfl (ev_tmp rfl)) ?_
              refine sq_grd rfl rfl (guard_t rfl rfl rfl) (fun hc => w_move rfl (ev_tmp rfl)) ?_
              refine sq_grd rfl rfl (guard_t rfl rfl rfl) (fun hc => w_lss rfl (ev_whn rfl hc) (ev_whn rfl hc)) ?_
              refine sq_plain rfl rfl rfl (w_and rfl (ev_tmp rfl) (evif_w rfl)) ?_
              refine sq_nil ?_
              refine awp_cond (ev_tmp rfl) ?_ ?_
              · intro h213
                simp only [Bool.and_eq_true, decide_eq_true_eq] at h213
                have hl2 := ok205.1.len
                have t3 : SortedOn (fun x y => decide (f x y < 0)) x205 mid (mid + m - s) := ok205.1.sorted_out (.inr (Nat.le_refl _)) (by have h9 := ok191.2.s3 (by omega) (by omega) (by omega) s1; rw [hm1] at h9; exact h9)
                have t4 : SortedOn (fun x y => decide (f x y < 0)) x205 (mid + m - s) b := ok205.1.sorted_out (.inr (by omega)) (ok191.2.s4 (by omega) (by omega) s2)
                refine awp_region ?_
                refine sq_plain rfl rfl rfl (w_move rfl (ev_tmp rfl)) ?_
                refine sq_plain rfl rfl rfl (w_move rfl (ev_tmp rfl)) ?_
                refine sq_plain rfl rfl rfl (w_move rfl (ev_tmp rfl)) ?_
                refine sq_plain rfl rfl rfl (w_move rfl (ev_tmp rfl)) ?_
                refine sq_plain rfl rfl rfl (w_move rfl (ev_tmp rfl)) ?_
                refine sq_callG [0] rfl rfl rfl rfl Try.call50 rfl (ih x205 mid (mid + m - s) b (by omega) (by omega) (by omega) (by omega) (by omega) t3 t4) (evl_cons (ev_tmp rfl) (evl_cons (ev_tmp (congrArg (fun z => some (AV.int z)) hmid)) (evl_cons (ev_tmp (congrArg (fun z => some (AV.int z)) (by rw [hmid]; omega))) (evl_cons (ev_tmp rfl) (evl_cons (ev_tmp rfl) evl_nil))))) rfl ?_
                intro x219 ok219
                refine sq_nil ?_
                first | exact retG [0] (upR l a (j - 1 - a)) (⟨shuf_upR (by omega) (Nat.le_refl _) (by omega), by have h9 := sorted_up hs (l := l) (a := a) (q := j) (b := b) (by omega) (by omega) hb (by rw [← ham1]; exact s2) hinv0.2.1 (by rw [← ham1]; exact hinv0.2.2); rw [show j - (a + 1) = j - 1 - a by omega] at h9; exact h9⟩) rfl (by rfl) (resN rfl (by decide) rv_nil) | exact retG [0] (downR l m (m - k)) (⟨shuf_downR (by omega) (by omega) (by omega) (by omega), by rw [hbm1]; exact sorted_down hs (by omega) (by omega) (by omega) s1 hinv0.2.1 hinv0.2.2⟩) rfl (by rfl) (resN rfl (by decide) rv_nil) | exact retG [0] (x219) (⟨((ok191.1.wide (by omega) (by omega)).trans (ok205.1.wide (Nat.le_refl _) (by omega))).trans (ok219.1.wide (by omega) (Nat.le_refl _)), sorted_glue (ok219.1.sorted_out (.inl (Nat.le_refl _)) ok205.2) ok219.2 (ok219.1.cross2 (ok205.1.cross1 (by have h9 := rot_cross hs ok191.2 (by omega) (by omega) (by omega) (by omega) s1 s2 hc1 hc2; rw [hm1] at h9; exact h9)))⟩) rfl (by rfl) (resN rfl (by decide) rv_nil)
              · intro h213
                have hl2 := ok205.1.len
                have t3 : SortedOn (fun x y => decide (f x y < 0)) x205 mid (mid + m - s) := ok205.1.sorted_out (.inr (Nat.le_refl _)) (by have h9 := ok191.2.s3 (by omega) (by omega) (by omega) s1; rw [hm1] at h9; exact h9)
                have t4 : SortedOn (fun x y => decide (f x y < 0)) x205 (mid + m - s) b := ok205.1.sorted_out (.inr (by omega)) (ok191.2.s4 (by omega) (by omega) s2)
                have hno3 : mid + m - s = mid ∨ mid + m - s = b := by (rw [hmid] at h213; rw [Bool.and_eq_false_iff, decide_eq_false_iff_not, decide_eq_false_iff_not] at h213; omega)
                obtain ⟨x219, e219, ok219⟩ : ∃ z : List TFeedItem, z = x205 ∧ (Shuf x205 z mid b ∧ SortedOn (fun x y => decide (f x y < 0)) z mid b) := ⟨x205, rfl, Shuf.refl _ _ _, by (rcases hno3 with e | e); (rw [e] at t4; exact t4); (rw [e] at t3; exact t3)⟩
                refine awp_own (congrArg (fun z : List TFeedItem => [Own.arr v 43 5 (z.map TFeedItem.cs)]) e219.symm) ?_
                refine awp_skip ?_
                first | exact retG [0] (upR l a (j - 1 - a)) (⟨shuf_upR (by omega) (Nat.le_refl _) (by omega), by have h9 := sorted_up hs (l := l) (a := a) (q := j) (b := b) (by omega) (by omega) hb (by rw [← ham1]; exact s2) hinv0.2.1 (by rw [← ham1]; exact hinv0.2.2); rw [show j - (a + 1) = j - 1 - a by omega] at h9; exact h9⟩) rfl (by rfl) (resN rfl (by decide) rv_nil) | exact retG [0] (downR l m (m - k)) (⟨shuf_downR (by omega) (by omega) (by omega) (by omega), by rw [hbm1]; exact sorted_down hs (by omega) (by omega) (by omega) s1 hinv0.2.1 hinv0.2.2⟩) rfl (by rfl) (resN rfl (by decide) rv_nil) | exact retG [0] (x219) (⟨((ok191.1.wide (by omega) (by omega)).trans (ok205.1.wide (Nat.le_refl _) (by omega))).trans (ok219.1.wide (by omega) (Nat.le_refl _)), sorted_glue (ok219.1.sorted_out (.inl (Nat.le_refl _)) ok205.2) ok219.2 (ok219.1.cross2 (ok205.1.cross1 (by have h9 := rot_cross hs ok191.2 (by omega) (by omega) (by omega) (by omega) s1 s2 hc1 hc2; rw [hm1] at h9; exact h9)))⟩) rfl (by rfl) (resN rfl (by decide) rv_nil)
            · intro h199
              have hl1 := ok191.1.len
              have hm1 : s + (mid + m - s - m) = mid := by omega
              have t1 : SortedOn (fun x y => decide (f x y < 0)) x191 a s := ok191.2.s1 (by omega) (by omega) s1
              have t2 : SortedOn (fun x y => decide (f x y < 0)) x191 s mid := (by have h9 := ok191.2.s2 (by omega) (by omega) (by omega) s2; rw [hm1] at h9; exact h9)
              have hno2 : s = a ∨ s = mid := by (rw [hmid] at h199; rw [Bool.and_eq_false_iff, decide_eq_false_iff_not, decide_eq_false_iff_not] at h199; omega)
              obtain ⟨x205, e205, ok205⟩ : ∃ z : List TFeedItem, z = x191 ∧ (Shuf x191 z a mid ∧ SortedOn (fun x y => decide (f x y < 0)) z a mid) := ⟨x191, rfl, Shuf.refl _ _ _, by (rcases hno2 with e | e); (rw [e] at t2; exact t2); (rw [e] at t1; exact t1)⟩
              refine awp_own (congrArg (fun z : List TFeedItem => [Own.arr v 43 5 (z.map TFeedItem.cs)]) e205.symm) ?_
              refine awp_skip ?_
              refine awp_seq ?_
              refine awp_region ?_
              refine sq_plain rfl rfl rfl (w_move rfl (ev_tmp rfl)) ?_
              refine sq_plain rfl rfl rfl (w_move rfl (ev_tmp rfl)) ?_
              refine sq_plain rfl rfl rfl (w_lss rfl (ev_tmp rfl) (ev_tmp rfl)) ?_
              refine sq_plain rfl rfl rfl (w_move rfl (ev_tmp rfl)) ?_
              refine sq_grd rfl rfl (guard_t rfl rfl rfl) (fun hc => w_move rfl (ev_tmp rfl)) ?_
              refine sq_grd rfl rfl (guard_t rfl rfl rfl) (fun hc => w_move rfl (ev_tmp rfl)) ?_
              refine sq_grd rfl rfl (guard_t rfl rfl rfl) (fun hc => w_lss rfl (ev_whn rfl hc) (ev_whn rfl hc)) ?_
              refine sq_plain rfl rfl rfl (w_and rfl (ev_tmp rfl) (evif_w rfl)) ?_
              refine sq_nil ?_
              refine awp_cond (ev_tmp rfl) ?_ ?_
              · intro h213
                simp only [Bool.and_eq_true, decide_eq_true_eq] at h213
                have hl2 := ok205.1.len
                have t3 : SortedOn (fun x y => decide (f x y < 0)) x205 mid (mid + m - s) := ok205.1.sorted_out (.inr (Nat.le_refl _)) (by have h9 := ok191.2.s3 (by omega) (by omega) (by omega) s1; rw [hm1] at h9; exact h9)
                have t4 : SortedOn (fun x y => decide (f x y < 0)) x205 (mid + m - s) b := ok205.1.sorted_out (.inr (by omega)) (ok191.2.s4 (by omega) (by omega) s2)
                refine awp_region ?_
                refine sq_plain rfl rfl rfl (w_move rfl (ev_tmp rfl)) ?_
                refine sq_plain rfl rfl rfl (w_move rfl (ev_tmp rfl)) ?_
                refine sq_plain rfl rfl rfl (w_move rfl (ev_tmp rfl)) ?_
                refine sq_plain rfl rfl rfl (w_move rfl (ev_tmp rfl)) ?_
                refine sq_plain rfl rfl rfl (w_move rfl (ev_tmp rfl)) ?_
                refine sq_callG [0] rfl rfl rfl rfl Try.call50 rfl (ih x205 mid (mid + m - s) b (by omega) (by omega) (by omega) (by omega) (by omega) t3 t4) (evl_cons (ev_tmp rfl) (evl_cons (ev_tmp (congrArg (fun z => some (AV.int z)) hmid)) (evl_cons (ev_tmp (congrArg (fun z => some (AV.int z)) (by rw [hmid]; omega))) (evl_cons (ev_tmp rfl) (evl_cons (ev_tmp rfl) evl_nil))))) rfl ?_
                intro x219 ok219
                refine sq_nil ?_
                first | exact retG [0] (upR l a (j - 1 - a)) (⟨shuf_upR (by omega) (Nat.le_refl _) (by omega), by have h9 := sorted_up hs (l := l) (a := a) (q := j) (b := b) (by omega) (by omega) hb (by rw [← ham1]; exact s2) hinv0.2.1 (by rw [← ham1]; exact hinv0.2.2); rw [show j - (a + 1) = j - 1 - a by omega] at h9; exact h9⟩) rfl (by rfl) (resN rfl (by decide) rv_nil) | exact retG [0] (downR l m (m - k)) (⟨shuf_downR (by omega) (by omega) (by omega) (by omega), by rw [hbm1]; exact sorted_down hs (by omega) (by omega) (by omega) s1 hinv0.2.1 hinv0.2.2⟩) rfl (by rfl) (resN rfl (by decide) rv_nil) | exact retG [0] (x219) (⟨((ok191.1.wide (by omega) (by omega)).trans (ok205.1.wide (Nat.le_refl _) (by omega))).trans (ok219.1.wide (by omega) (Nat.le_refl _)), sorted_glue (ok219.1.sorted_out (.inl (Nat.le_refl _)) ok205.2) ok219.2 (ok219.1.cross2 (ok205.1.cross1 (by have h9 := rot_cross hs ok191.2 (by omega) (by omega) (by omega) (by omega) s1 s2 hc1 hc2; rw [hm1] at h9; exact h9)))⟩) rfl (by rfl) (resN rfl (by decide) rv_nil)
              · intro h213
                have hl2 := ok205.1.len
                have t3 : SortedOn (fun x y => decide (f x y < 0)) x205 mid (mid + m - s) := ok205.1.sorted_out (.inr (Nat.le_refl _)) (by have h9 := ok191.2.s3 (by omega) (by omega) (by omega) s1; rw [hm1] at h9; exact h9)
                have t4 : SortedOn (fun x y => decide (f x y < 0)) x205 (mid + m - s) b := ok205.1.sorted_out (.inr (by omega)) (ok191.2.s4 (by omega) (by omega) s2)
                have hno3 : mid + m - s = mid ∨ mid + m - s = b := by (rw [hmid] at h213; rw [Bool.and_eq_false_iff, decide_eq_false_iff_not, decide_eq_false_iff_not] at h213; omega)
                obtain ⟨x219, e219, ok219⟩ : ∃ z : List TFeedItem, z = x205 ∧ (Shuf x205 z mid b ∧ SortedOn (fun x y => decide (f x y < 0)) z mid b) := ⟨x205, rfl, Shuf.refl _ _ _, by (rcases hno3 with e | e); (rw [e] at t4; exact t4); (rw [e] at t3; exact t3)⟩
                refine awp_own (congrArg (fun z : List TFeedItem => [Own.arr v 43 5 (z.map TFeedItem.cs)]) e219.symm) ?_
                refine awp_skip ?_
                first | exact retG [0] (upR l a (j - 1 - a)) (⟨shuf_upR (by omega) (Nat.le_refl _) (by omega), by have h9 := sorted_up hs (l := l) (a := a) (q := j) (b := b) (by omega) (by omega) hb (by rw [← ham1]; exact s2) hinv0.2.1 (by rw [← ham1]; exact hinv0.2.2); rw [show j - (a + 1) = j - 1 - a by omega] at h9; exact h9⟩) rfl (by rfl) (resN rfl (by decide) rv_nil) | exact retG [0] (downR l m (m - k)) (⟨shuf_downR (by omega) (by omega) (by omega) (by omega), by rw [hbm1]; exact sorted_down hs (by omega) (by omega) (by omega) s1 hinv0.2.1 hinv0.2.2⟩) rfl (by rfl) (resN rfl (by decide) rv_nil) | exact retG [0] (x219) (⟨((ok191.1.wide (by omega) (by omega)).trans (ok205.1.wide (Nat.le_refl _) (by omega))).trans (ok219.1.wide (by omega) (Nat.le_refl _)), sorted_glue (ok219.1.sorted_out (.inl (Nat.le_refl _)) ok205.2) ok219.2 (ok219.1.cross2 (ok205.1.cross1 (by have h9 := rot_cross hs ok191.2 (by omega) (by omega) (by omega) (by omega) s1 s2 hc1 hc2; rw [hm1] at h9; exact h9)))⟩) rfl (by rfl) (resN rfl (by decide) rv_nil)
end Go.Proofs.Ytcglmbinmfkafaa

set_option linter.unusedVariables false
set_option linter.unusedSimpArgs false
set_option maxRecDepth 100000
set_option maxHeartbeats 1000000
namespace Go.Proofs.Ytcglmbinmfkafaa
open Go Go.AV Go.M
attribute [local irreducible] OpW OpA OpS AWP FSpec ESpec GSpec OpE RetOk RetOkG RvDen Le Ev GuardIs SrcIs Int.tmod Int.tdiv IntKind.wrap
theorem stable_own (v : Value) (l : List TFeedItem) (n : Nat) (f : TFeedItem → TFeedItem → Int) (hs : Swo fun x y => decide (f x y < 0)) (hn : n ≤ l.length) (hl : l.length ≤ 1048576) :
    GSpec Try.prog 35 [AV.is v, AV.int n, AV.fun2 Try.prog (fun _ _ => True) (fun x : TFeedItem => AV.agg x.cs) (fun y : TFeedItem => AV.agg y.cs) (fun x y => AV.int (f x y))] [.arr v 43 5 (l.map TFeedItem.cs)]
      (fun l' : List TFeedItem => Shuf l l' 0 n ∧ SortedOn (fun x y => decide (f x y < 0)) l' 0 n) (fun l' => [.arr v 43 5 (l'.map TFeedItem.cs)]) (fun _ => AV.tup []) := by
  refine gspec_of_awp Try.func35 rfl Try.ntmps35 rfl ?_
  refine awp_seq ?_
  refine awp_region ?_
  refine sq_plain rfl rfl rfl (w_assign rfl ev_ci) ?_
  refine sq_nil ?_
  refine awp_seq ?_
  refine awp_region ?_
  refine sq_plain rfl rfl rfl (w_move rfl (ev_tmp rfl)) ?_
  refine sq_plain rfl rfl rfl (w_assign rfl ev_ci) ?_
  refine sq_plain rfl rfl rfl (w_assign rfl (ev_tmp rfl)) ?_
  refine sq_nil ?_
  refine awp_seq ?_
  refine awp_block ?_
  refine awp_loop_i2 [(0, _), (1, _), (2, _), (6, _)] _ (fun (a : Nat) (c : List TFeedItem) => (Shuf l c 0 n ∧ BlkTo (fun x y => decide (f x y < 0)) c 20 a) ∧ 20 ∣ a ∧ a ≤ n) (fun (a : Nat) (c : List TFeedItem) => [.arr v 43 5 (c.map TFeedItem.cs)]) (fun (a : Nat) (c : List TFeedItem) => [(7, AV.int a), (8, AV.int (a + 20 : Nat))]) (fun (a : Nat) (c : List TFeedItem) => n - a) (0) (l) ?_ (le_eq (by rfl) ⟨rfl, rfl, rfl, rfl, rfl, rfl, trivial⟩) ?_
  · exact ⟨⟨Shuf.refl _ _ _, blkTo_zero _ (by decide)⟩, Nat.dvd_zero _, Nat.zero_le _⟩
  intro a c hinv
  have hln := hinv.1.1.len
  refine awp_seq ?_
  refine awp_seq ?_
  refine awp_region ?_
  refine sq_plain rfl rfl rfl (w_move rfl (ev_tmp rfl)) ?_
  refine sq_plain rfl rfl rfl (w_move rfl (ev_tmp rfl)) ?_
  refine sq_plain rfl rfl rfl (w_leq rfl (ev_tmp rfl) (ev_tmp rfl)) ?_
  refine sq_nil ?_
  refine awp_cond (ev_tmp rfl) ?_ ?_
  · intro h13
    have k13 := of_decide_eq_true h13; try simp only [List.length_map] at k13
    refine awp_skip ?_
    refine awp_block ?_
    refine awp_seq ?_
    refine awp_region ?_
    refine sq_plain rfl rfl rfl (w_move rfl (ev_tmp rfl)) ?_
    refine sq_plain rfl rfl rfl (w_move rfl (ev_tmp rfl)) ?_
    refine sq_plain rfl rfl rfl (w_move rfl (ev_tmp rfl)) ?_
    refine sq_plain rfl rfl rfl (w_move rfl (ev_tmp rfl)) ?_
    refine sq_callG [0] rfl rfl rfl rfl Try.call49 rfl (insertion_own v c a (a + 20) f hs (by omega) (by omega) (by omega)) (evl_cons (ev_tmp rfl) (evl_cons (ev_tmp rfl) (evl_cons (ev_tmp rfl) (evl_cons (ev_tmp rfl) evl_nil)))) rfl ?_
    intro x18 ok18
    refine sq_nil ?_
    refine awp_seq ?_
    refine awp_region ?_
    refine sq_plain rfl rfl rfl (w_move rfl (ev_tmp rfl)) ?_
    refine sq_plain rfl rfl rfl (w_assign rfl (ev_tmp rfl)) ?_
    refine sq_nil ?_
    refine awp_region ?_
    refine sq_plain rfl rfl rfl (w_move rfl (ev_tmp rfl)) ?_
    refine sq_plain rfl rfl rfl (w_move rfl (ev_tmp rfl)) ?_
    refine sq_plain rfl rfl rfl (w_addi rfl (ev_tmp rfl) (ev_tmp rfl) (by first | omega | ((try simp only [List.length_map, List.length_take, List.length_cons, List.length_nil, chunks_len, szR] at *); omega) | (have hc2 := hc; simp only [Bool.and_eq_true, Bool.or_eq_true, Bool.or_eq_false_iff, Bool.and_eq_false_iff, Bool.not_eq_true', Bool.not_eq_false', decide_eq_true_eq, decide_eq_false_iff_not, beq_iff_eq, bne_iff_ne, List.length_map, List.length_take] at hc2; omega))) ?_
    refine sq_plain rfl rfl rfl (w_assign rfl (ev_tmp rfl)) ?_
    refine sq_nil ?_
    refine blockN ?_
    refine round_end2 a c (a + 20) (x18) ?_ ?_ (le_eq (by rfl) ⟨rfl, congrArg (fun z => some (AV.int z)) (by omega), rfl, rfl, rfl, rfl, trivial⟩)
    · exact ⟨⟨hinv.1.1.trans (ok18.1.wide (Nat.zero_le _) (by omega)), blkTo_step (by decide) hinv.2.1 hinv.1.2 ok18.1 ok18.2⟩, Nat.dvd_add hinv.2.1 (Nat.dvd_refl _), by omega⟩
    · omega
  · intro h13
    have k13 := of_decide_eq_false h13; try simp only [List.length_map] at k13
    have hinv0 := hinv
    have hdv := hinv.2.1
    refine awp_exit ?_
    refine awp_seq ?_
    refine awp_region ?_
    refine sq_plain rfl rfl rfl (w_move rfl (ev_tmp rfl)) ?_
    refine sq_plain rfl rfl rfl (w_move rfl (ev_tmp rfl)) ?_
    refine sq_plain rfl rfl rfl (w_move rfl (ev_tmp rfl)) ?_
    refine sq_plain rfl rfl rfl (w_move rfl (ev_tmp rfl)) ?_
    refine sq_callG [0] rfl rfl rfl rfl Try.call49 rfl (insertion_own v c a n f hs (by omega) (by omega) (by omega)) (evl_cons (ev_tmp rfl) (evl_cons (ev_tmp rfl) (evl_cons (ev_tmp rfl) (evl_cons (ev_tmp rfl) evl_nil)))) rfl ?_
    intro x27 ok27
    refine sq_nil ?_
    refine awp_block ?_
    refine awp_loop_i2 [(0, _), (1, _), (2, _)] _ (fun (s : Nat) (d : List TFeedItem) => (Shuf l d 0 n ∧ BlkFrom (fun x y => decide (f x y < 0)) d s 0 n) ∧ 20 ≤ s ∧ s ≤ 2 * n + 20) (fun (s : Nat) (d : List TFeedItem) => [.arr v 43 5 (d.map TFeedItem.cs)]) (fun (s : Nat) (d : List TFeedItem) => [(6, AV.int s)]) (fun (s : Nat) (d : List TFeedItem) => n - s) (20) (x27) ?_ (le_eq (by rfl) ⟨rfl, rfl, rfl, rfl, trivial⟩) ?_
    · exact ⟨⟨hinv0.1.1.trans (ok27.1.wide (Nat.zero_le _) (Nat.le_refl _)), blk_all (by decide) hdv (fun x hx hxa => ok27.1.sorted_out (.inl hxa) (hinv0.1.2 x hx hxa)) ok27.2 (by omega)⟩, by omega, by omega⟩
    intro s d hinv
    refine awp_seq ?_
    refine awp_seq ?_
    refine awp_region ?_
    refine sq_plain rfl rfl rfl (w_move rfl (ev_tmp rfl)) ?_
    refine sq_plain rfl rfl rfl (w_move rfl (ev_tmp rfl)) ?_
    refine sq_plain rfl rfl rfl (w_lss rfl (ev_tmp rfl) (ev_tmp rfl)) ?_
    refine sq_nil ?_
    refine awp_cond (ev_tmp rfl) ?_ ?_
    · intro h30
      have k30 := of_decide_eq_true h30; try simp only [List.length_map] at k30
      have hinv1 := hinv
      refine awp_skip ?_
      refine awp_block ?_
      refine awp_seq ?_
      refine awp_region ?_
      refine sq_plain rfl rfl rfl (w_move rfl (ev_tmp rfl)) ?_
      refine sq_plain rfl rfl rfl (w_muli rfl ev_ci (ev_tmp rfl) (by first | omega | ((try simp only [List.length_map, List.length_take, List.length_cons, List.length_nil, chunks_len, szR] at *); omega) | (have hc2 := hc; simp only [Bool.and_eq_true, Bool.or_eq_true, Bool.or_eq_false_iff, Bool.and_eq_false_iff, Bool.not_eq_true', Bool.not_eq_false', decide_eq_true_eq, decide_eq_false_iff_not, beq_iff_eq, bne_iff_ne, List.length_map, List.length_take] at hc2; omega))) ?_
      refine sq_plain rfl rfl rfl (w_assign rfl ev_ci) ?_
      refine sq_plain rfl rfl rfl (w_assign rfl (ev_tmp rfl)) ?_
      refine sq_nil ?_
      refine awp_seq ?_
      refine awp_block ?_
      refine awp_loop_i2 [(0, _), (1, _), (2, _), (6, _), (28, _), (29, _), (30, _), (31, _), (32, _)] _ (fun (a : Nat) (c : List TFeedItem) => (Shuf l c 0 n ∧ BlkTo (fun x y => decide (f x y < 0)) c (2 * s) a ∧ BlkFrom (fun x y => decide (f x y < 0)) c s a n) ∧ 2 * s ∣ a ∧ a ≤ n) (fun (a : Nat) (c : List TFeedItem) => [.arr v 43 5 (c.map TFeedItem.cs)]) (fun (a : Nat) (c : List TFeedItem) => [(7, AV.int a), (8, AV.int (a + 2 * s : Nat))]) (fun (a : Nat) (c : List TFeedItem) => n - a) (0) (d) ?_ (le_eq (by rfl) ⟨rfl, congrArg (fun z => some (AV.int z)) (by omega), rfl, rfl, rfl, rfl, rfl, rfl, rfl, rfl, rfl, trivial⟩) ?_
      · exact ⟨⟨hinv1.1.1, blkTo_zero _ (by omega), hinv1.1.2⟩, Nat.dvd_zero _, Nat.zero_le _⟩
      intro a c hinv
      have hln2 := hinv.1.1.len
      have hsa : s ∣ a := Nat.dvd_trans (Nat.dvd_mul_left s 2) hinv.2.1
      have t1 := hinv.1.2.2 a hsa (Nat.le_refl _)
      have t2 := hinv.1.2.2 (a + s) (Nat.dvd_add hsa (Nat.dvd_refl _)) (by omega)
      refine awp_seq ?_
      refine awp_seq ?_
      refine awp_region ?_
      refine sq_plain rfl rfl rfl (w_move rfl (ev_tmp rfl)) ?_
      refine sq_plain rfl rfl rfl (w_move rfl (ev_tmp rfl)) ?_
      refine sq_plain rfl rfl rfl (w_leq rfl (ev_tmp rfl) (ev_tmp rfl)) ?_
      refine sq_nil ?_
      refine awp_cond (ev_tmp rfl) ?_ ?_
      · intro h35
        have k35 := of_decide_eq_true h35; try simp only [List.length_map] at k35
        refine awp_skip ?_
        refine awp_block ?_
        refine awp_seq ?_
        refine awp_region ?_
        refine sq_plain rfl rfl rfl (w_move rfl (ev_tmp rfl)) ?_
        refine sq_plain rfl rfl rfl (w_move rfl (ev_tmp rfl)) ?_
        refine sq_plain rfl rfl rfl (w_move rfl (ev_tmp rfl)) ?_
        refine sq_plain rfl rfl rfl (w_move rfl (ev_tmp rfl)) ?_
        refine sq_plain rfl rfl rfl (w_addi rfl (ev_tmp rfl) (ev_tmp rfl) (by first | omega | ((try simp only [List.length_map, List.length_take, List.length_cons, List.length_nil, chunks_len, szR] at *); omega) | (have hc2 := hc; simp only [Bool.and_eq_true, Bool.or_eq_true, Bool.or_eq_false_iff, Bool.and_eq_false_iff, Bool.not_eq_true', Bool.not_eq_false', decide_eq_true_eq, decide_eq_false_iff_not, beq_iff_eq, bne_iff_ne, List.length_map, List.length_take] at hc2; omega))) ?_
        refine sq_plain rfl rfl rfl (w_move rfl (ev_tmp rfl)) ?_
        refine sq_plain rfl rfl rfl (w_move rfl (ev_tmp rfl)) ?_
        refine sq_callG [0] rfl rfl rfl rfl Try.call50 rfl (symMerge_own v f hs _ c a (a + s) (a + 2 * s) (Nat.le_refl _) (by omega) (by omega) (by omega) (by omega) (by rw [Nat.min_eq_left (by omega)] at t1; exact t1) (by rw [Nat.min_eq_left (by omega), show a + s + s = a + 2 * s by omega] at t2; exact t2)) (evl_cons (ev_tmp rfl) (evl_cons (ev_tmp rfl) (evl_cons (ev_tmp rfl) (evl_cons (ev_tmp rfl) (evl_cons (ev_tmp rfl) evl_nil))))) rfl ?_
        intro x43 ok43
        refine sq_nil ?_
        refine awp_seq ?_
        refine awp_region ?_
        refine sq_plain rfl rfl rfl (w_move rfl (ev_tmp rfl)) ?_
        refine sq_plain rfl rfl rfl (w_assign rfl (ev_tmp rfl)) ?_
        refine sq_nil ?_
        refine awp_region ?_
        refine sq_plain rfl rfl rfl (w_move rfl (ev_tmp rfl)) ?_
        refine sq_plain rfl rfl rfl (w_move rfl (ev_tmp rfl)) ?_
        refine sq_plain rfl rfl rfl (w_muli rfl ev_ci (ev_tmp rfl) (by first | omega | ((try simp only [List.length_map, List.length_take, List.length_cons, List.length_nil, chunks_len, szR] at *); omega) | (have hc2 := hc; simp only [Bool.and_eq_true, Bool.or_eq_true, Bool.or_eq_false_iff, Bool.and_eq_false_iff, Bool.not_eq_true', Bool.not_eq_false', decide_eq_true_eq, decide_eq_false_iff_not, beq_iff_eq, bne_iff_ne, List.length_map, List.length_take] at hc2; omega))) ?_
        refine sq_plain rfl rfl rfl (w_addi rfl (ev_tmp rfl) (ev_tmp rfl) (by first | omega | ((try simp only [List.length_map, List.length_take, List.length_cons, List.length_nil, chunks_len, szR] at *); omega) | (have hc2 := hc; simp only [Bool.and_eq_true, Bool.or_eq_true, Bool.or_eq_false_iff, Bool.and_eq_false_iff, Bool.not_eq_true', Bool.not_eq_false', decide_eq_true_eq, decide_eq_false_iff_not, beq_iff_eq, bne_iff_ne, List.length_map, List.length_take] at hc2; omega))) ?_
        refine sq_plain rfl rfl rfl (w_assign rfl (ev_tmp rfl)) ?_
        refine sq_nil ?_
        refine blockN ?_
        refine round_end2 a c (a + 2 * s) (x43) ?_ ?_ (le_eq (by rfl) ⟨rfl, congrArg (fun z => some (AV.int z)) (by omega), rfl, rfl, rfl, rfl, rfl, rfl, rfl, rfl, rfl, trivial⟩)
        · exact ⟨⟨hinv.1.1.trans (ok43.1.wide (Nat.zero_le _) (by omega)), blkTo_step (by omega) hinv.2.1 hinv.1.2.1 ok43.1 ok43.2, blkFrom_step hinv.1.2.2 (by omega) ok43.1⟩, Nat.dvd_add hinv.2.1 (Nat.dvd_refl _), by omega⟩
        · omega
      · intro h35
        have k35 := of_decide_eq_false h35; try simp only [List.length_map] at k35
        have hinv2 := hinv
        refine awp_exit ?_
        refine awp_seq ?_
        refine awp_seq ?_
        refine awp_region ?_
        refine sq_plain rfl rfl rfl (w_move rfl (ev_tmp rfl)) ?_
        refine sq_plain rfl rfl rfl (w_move rfl (ev_tmp rfl)) ?_
        refine sq_plain rfl rfl rfl (w_addi rfl (ev_tmp rfl) (ev_tmp rfl) (by first | omega | ((try simp only [List.length_map, List.length_take, List.length_cons, List.length_nil, chunks_len, szR] at *); omega) | (have hc2 := hc; simp only [Bool.and_eq_true, Bool.or_eq_true, Bool.or_eq_false_iff, Bool.and_eq_false_iff, Bool.not_eq_true', Bool.not_eq_false', decide_eq_true_eq, decide_eq_false_iff_not, beq_iff_eq, bne_iff_ne, List.length_map, List.length_take] at hc2; omega))) ?_
        refine sq_plain rfl rfl rfl (w_assign rfl (ev_tmp rfl)) ?_
        refine sq_nil ?_
        refine awp_seq ?_
        refine awp_region ?_
        refine sq_plain rfl rfl rfl (w_move rfl (ev_tmp rfl)) ?_
        refine sq_plain rfl rfl rfl (w_move rfl (ev_tmp rfl)) ?_
        refine sq_plain rfl rfl rfl (w_lss rfl (ev_tmp rfl) (ev_tmp rfl)) ?_
        refine sq_nil ?_
        refine awp_cond (ev_tmp rfl) ?_ ?_
        · intro h54
          have k54 := of_decide_eq_true h54; try simp only [List.length_map] at k54
          refine awp_region ?_
          refine sq_plain rfl rfl rfl (w_move rfl (ev_tmp rfl)) ?_
          refine sq_plain rfl rfl rfl (w_move rfl (ev_tmp rfl)) ?_
          refine sq_plain rfl rfl rfl (w_move rfl (ev_tmp rfl)) ?_
          refine sq_plain rfl rfl rfl (w_move rfl (ev_tmp rfl)) ?_
          refine sq_plain rfl rfl rfl (w_move rfl (ev_tmp rfl)) ?_
          refine sq_callG [0] rfl rfl rfl rfl Try.call50 rfl (symMerge_own v f hs _ c a (a + s) n (Nat.le_refl _) (by omega) (by omega) (by omega) (by omega) (by rw [Nat.min_eq_left (by omega)] at t1; exact t1) (by rw [Nat.min_eq_right (by omega)] at t2; exact t2)) (evl_cons (ev_tmp rfl) (evl_cons (ev_tmp rfl) (evl_cons (ev_tmp rfl) (evl_cons (ev_tmp rfl) (evl_cons (ev_tmp rfl) evl_nil))))) rfl ?_
          intro x60 ok60
          refine sq_nil ?_
          refine awp_region ?_
          refine sq_plain rfl rfl rfl (w_move rfl (ev_tmp rfl)) ?_
          refine sq_plain rfl rfl rfl (w_muli rfl (ev_tmp rfl) ev_ci (by first | omega | ((try simp only [List.length_map, List.length_take, List.length_cons, List.length_nil, chunks_len, szR] at *); omega) | (have hc2 := hc; simp only [Bool.and_eq_true, Bool.or_eq_true, Bool.or_eq_false_iff, Bool.and_eq_false_iff, Bool.not_eq_true', Bool.not_eq_false', decide_eq_true_eq, decide_eq_false_iff_not, beq_iff_eq, bne_iff_ne, List.length_map, List.length_take] at hc2; omega))) ?_
          refine sq_plain rfl rfl rfl (w_assign rfl (ev_tmp rfl)) ?_
          refine sq_nil ?_
          refine blockN ?_
          refine round_end2 s d (s * 2) (x60) ?_ ?_ (le_eq (by rfl) ⟨congrArg (fun z => some (AV.int z)) (by omega), rfl, rfl, rfl, trivial⟩)
          · exact ⟨⟨hinv2.1.1.trans (ok60.1.wide (Nat.zero_le _) (Nat.le_refl _)), by rw [Nat.mul_comm]; exact blk_all (by omega) hinv2.2.1 (fun x hx hxa => ok60.1.sorted_out (.inl hxa) (hinv2.1.2.1 x hx hxa)) ok60.2 (by omega)⟩, by omega, by omega⟩
          · omega
        · intro h54
          have k54 := of_decide_eq_false h54; try simp only [List.length_map] at k54
          obtain ⟨x60, e60, ok60⟩ : ∃ z : List TFeedItem, z = c ∧ (Shuf c z a n ∧ SortedOn (fun x y => decide (f x y < 0)) z a n) := ⟨c, rfl, Shuf.refl _ _ _, by rw [Nat.min_eq_right (by omega)] at t1; exact t1⟩
          refine awp_own (congrArg (fun z : List TFeedItem => [Own.arr v 43 5 (z.map TFeedItem.cs)]) e60.symm) ?_
          refine awp_skip ?_
          refine awp_region ?_
          refine sq_plain rfl rfl rfl (w_move rfl (ev_tmp rfl)) ?_
          refine sq_plain rfl rfl rfl (w_muli rfl (ev_tmp rfl) ev_ci (by first | omega | ((try simp only [List.length_map, List.length_take, List.length_cons, List.length_nil, chunks_len, szR] at *); omega) | (have hc2 := hc; simp only [Bool.and_eq_true, Bool.or_eq_true, Bool.or_eq_false_iff, Bool.and_eq_false_iff, Bool.not_eq_true', Bool.not_eq_false', decide_eq_true_eq, decide_eq_false_iff_not, beq_iff_eq, bne_iff_ne, List.length_map, List.length_take] at hc2; omega))) ?_
          refine sq_plain rfl rfl rfl (w_assign rfl (ev_tmp rfl)) ?_
          refine sq_nil ?_
          refine blockN ?_
          refine round_end2 s d (s * 2) (x60) ?_ ?_ (le_eq (by rfl) ⟨congrArg (fun z => some (AV.int z)) (by omega), rfl, rfl, rfl, trivial⟩)
          · exact ⟨⟨hinv2.1.1.trans (ok60.1.wide (Nat.zero_le _) (Nat.le_refl _)), by rw [Nat.mul_comm]; exact blk_all (by omega) hinv2.2.1 (fun x hx hxa => ok60.1.sorted_out (.inl hxa) (hinv2.1.2.1 x hx hxa)) ok60.2 (by omega)⟩, by omega, by omega⟩
          · omega
    · intro h30
      have k30 := of_decide_eq_false h30; try simp only [List.length_map] at k30
      refine awp_exit ?_
      exact retG [0] (d) (⟨hinv.1.1, blk_done hinv.1.2 (by omega)⟩) rfl (by rfl) (resN rfl (by decide) rv_nil)
theorem stableFunc_own (v : Value) (l : List TFeedItem) (f : TFeedItem → TFeedItem → Int) (hs : Swo fun x y => decide (f x y < 0)) (hl : l.length ≤ 1048576) :
    GSpec Try.prog 18 [AV.is v, AV.fun2 Try.prog (fun _ _ => True) (fun x : TFeedItem => AV.agg x.cs) (fun y : TFeedItem => AV.agg y.cs) (fun x y => AV.int (f x y))] [.arr v 43 5 (l.map TFeedItem.cs)]
      (fun l' : List TFeedItem => l'.Perm l ∧ SortedOn (fun x y => decide (f x y < 0)) l' 0 l.length) (fun l' => [.arr v 43 5 (l'.map TFeedItem.cs)]) (fun _ => AV.tup []) := by
  refine gspec_of_awp Try.func18 rfl Try.ntmps18 rfl ?_
  refine awp_region ?_
  refine sq_plain rfl rfl rfl (w_move rfl (ev_tmp rfl)) ?_
  refine sq_plain rfl rfl rfl (w_move rfl (ev_tmp rfl)) ?_
  refine sq_plain rfl rfl rfl (w_alen 0 rfl Try.underlying24 (ev_tmp rfl) rfl) ?_
  refine sq_plain rfl rfl rfl (w_move rfl (ev_tmp rfl)) ?_
  refine sq_callG [0] rfl rfl rfl rfl Try.call35 rfl (stable_own v l l.length f hs (Nat.le_refl _) hl) (evl_cons (ev_tmp rfl) (evl_cons (ev_tmp (congrArg (fun z => some (AV.int z)) (by rw [List.length_map]))) (evl_cons (ev_tmp rfl) evl_nil))) rfl ?_
  intro x8 ok8
  refine sq_nil ?_
  exact retG [0] (x8) (⟨ok8.1.perm, ok8.2⟩) rfl (by rfl) (resN rfl (by decide) rv_nil)
end Go.Proofs.Ytcglmbinmfkafaa

set_option linter.unusedVariables false
set_option linter.unusedSimpArgs false
set_option maxRecDepth 100000
set_option maxHeartbeats 1000000
namespace Go.Proofs.Ytcglmbinmfkafaa
open Go Go.AV Go.M
attribute [local irreducible] OpW OpA OpS AWP FSpec ESpec GSpec OpE RetOk RetOkG RvDen Le Ev GuardIs SrcIs
theorem put_cells (l : List TFeedItem) (k : Nat) (x : TFeedItem) : (l.take k ++ x :: l.drop k).map TFeedItem.cs = ([] ++ (l.map TFeedItem.cs).take (k : Int).toNat ++ [x.cs]) ++ (l.map TFeedItem.cs).drop (k : Int).toNat := by simp
theorem l23Put_own (v : Value) (l : List TFeedItem) (x : TFeedItem) (hl : l.length ≤ 2097152) : GSpec Try.prog 23 [AV.is v, AV.agg x.cs] [.arr v 43 5 (l.map TFeedItem.cs)]
      (fun _ : Value => True) (fun v' => [.arr v' 43 5 ((putR l x).1.map TFeedItem.cs)]) (fun v' => AV.tup [AV.is v', AV.bool (putR l x).2]) := by
  refine gspec_of_awp Try.func23 rfl Try.ntmps23 rfl ?_
  refine awp_seq ?_
  refine awp_region ?_
  refine sq_box rfl rfl rfl rfl (ev_tmp rfl) ?_
  intro b3
  refine sq_plain rfl rfl rfl (w_assign rfl ev_cnils) ?_
  refine sq_plain rfl rfl rfl (w_assign rfl ev_cb) ?_
  refine sq_nil ?_
  refine awp_seq ?_
  refine awp_region ?_
  refine sq_plain rfl rfl rfl (w_assign rfl ev_ci) ?_
  refine sq_nil ?_
  refine awp_seq ?_
  refine awp_block ?_
  refine awp_loop_i [(0, _), (3, _), (4, _), (5, _)] _ (fun (k : Nat) => k ≤ l.length ∧ ∀ i y, i < k → l[i]? = some y → l23Ahead y x = true) (fun (k : Nat) => []) (fun (k : Nat) => [(6, AV.int k)]) (fun (k : Nat) => l.length - k) (0) ?_ (le_env ⟨rfl, rfl, rfl, rfl, rfl, trivial⟩) ?_
  · exact ⟨Nat.zero_le _, fun i y h => by omega⟩
  intro k hinv
  obtain ⟨y, hy0⟩ := get_any l k
  refine awp_seq ?_
  refine awp_seq ?_
  refine awp_region_any (by kernel_rfl) (by kernel_rfl) rfl ?_
  refine ch_plain rfl rfl (w_move rfl (ev_tmp rfl)) ?_
  refine ch_plain rfl rfl (w_move rfl (ev_tmp rfl)) ?_
  refine ch_plain rfl rfl (w_alen 1 rfl Try.underlying24 (ev_tmp rfl) rfl) ?_
  refine ch_plain rfl rfl (w_lss rfl (ev_tmp rfl) (ev_tmp rfl)) ?_
  refine ch_plain rfl rfl (w_move rfl (ev_tmp rfl)) ?_
  refine ch_grd rfl (guard_t rfl rfl rfl) (fun hc => w_move rfl (ev_tmp rfl)) ?_
  refine ch_grd rfl (guard_t rfl rfl rfl) (fun hc => w_move rfl (ev_tmp rfl)) ?_
  refine ch_grd rfl (guard_t rfl rfl rfl) (fun hc => w_aidx 1 rfl Try.underlying24 Try.sizeOf43 (ev_whn rfl hc) rfl (ev_whn rfl hc) (by omega) (by have := of_decide_eq_true hc; simpa using this)) ?_
  refine ch_grd rfl (guard_t rfl rfl rfl) (fun hc => w_loadX 1 rfl (ev_whn rfl hc) rfl Try.isAgg43 Try.sizeOf43 (by have h9 := of_decide_eq_true hc; simp only [Int.toNat_natCast, List.getElem?_map]; rw [hy0 (by simpa using h9)]; rfl) (by decide)) ?_
  refine ch_grd rfl (guard_t rfl rfl rfl) (fun hc => w_loadA 0 rfl (ev_tmp rfl) rfl Try.isAgg43 Try.sizeOf43 rfl) ?_
  refine ch_grd rfl (guard_t rfl rfl rfl) (fun hc => w_call rfl Try.call40 rfl (l23Ahead_spec _ _) (evl_cons (ev_whn rfl hc) (evl_cons (ev_whn rfl hc) evl_nil))) ?_
  refine ch_plain rfl rfl (w_and rfl (ev_tmp rfl) (evif_w rfl)) ?_
  refine ch_nil ?_
  refine awp_cond (ev_tmp rfl) ?_ ?_
  · intro h18
    have hkt : k < l.length ∧ l23Ahead y x = true := by simpa using h18
    refine awp_skip ?_
    refine awp_block ?_
    refine awp_region ?_
    refine sq_plain rfl rfl rfl (w_move rfl (ev_tmp rfl)) ?_
    refine sq_plain rfl rfl rfl (w_addi rfl (ev_tmp rfl) ev_ci (by first | omega | ((try simp only [List.length_map, List.length_take, List.length_cons, List.length_nil, chunks_len, szR] at *); omega) | (have hc2 := hc; simp only [Bool.and_eq_true, Bool.or_eq_true, Bool.or_eq_false_iff, Bool.and_eq_false_iff, Bool.not_eq_true', Bool.not_eq_false', decide_eq_true_eq, decide_eq_false_iff_not, beq_iff_eq, bne_iff_ne, List.length_map, List.length_take] at hc2; omega))) ?_
    refine sq_plain rfl rfl rfl (w_assign rfl (ev_tmp rfl)) ?_
    refine sq_nil ?_
    refine blockN ?_
    refine round_end k (k + 1) ?_ ?_ (le_env ⟨rfl, rfl, rfl, rfl, rfl, trivial⟩)
    · exact ⟨by have := hkt.1; omega, fun i z hi hz => if e : i = k then (by subst e; rw [hy0 hkt.1] at hz; injection hz with hz; subst hz; exact hkt.2) else hinv.2 i z (by omega) hz⟩
    · omega
  · intro h18
    have hng : k < l.length → l23Ahead y x = false := fun h => by simpa [h] using h18
    refine awp_exit ?_
    refine awp_seq ?_
    refine awp_seq ?_
    refine awp_region_any (by kernel_rfl) (by kernel_rfl) rfl ?_
    refine ch_plain rfl rfl (w_move rfl (ev_tmp rfl)) ?_
    refine ch_plain rfl rfl (w_move rfl (ev_tmp rfl)) ?_
    refine ch_plain rfl rfl (w_alen 1 rfl Try.underlying24 (ev_tmp rfl) rfl) ?_
    refine ch_plain rfl rfl (w_lss rfl (ev_tmp rfl) (ev_tmp rfl)) ?_
    refine ch_plain rfl rfl (w_move rfl (ev_tmp rfl)) ?_
    refine ch_grd rfl (guard_t rfl rfl rfl) (fun hc => w_loadA 0 rfl (ev_tmp rfl) rfl Try.isAgg43 Try.sizeOf43 rfl) ?_
    refine ch_grd rfl (guard_t rfl rfl rfl) (fun hc => w_move rfl (ev_tmp rfl)) ?_
    refine ch_grd rfl (guard_t rfl rfl rfl) (fun hc => w_move rfl (ev_tmp rfl)) ?_
    refine ch_grd rfl (guard_t rfl rfl rfl) (fun hc => w_aidx 1 rfl Try.underlying24 Try.sizeOf43 (ev_whn rfl hc) rfl (ev_whn rfl hc) (by omega) (by have := of_decide_eq_true hc; simpa using this)) ?_
    refine ch_grd rfl (guard_t rfl rfl rfl) (fun hc => w_loadX 1 rfl (ev_whn rfl hc) rfl Try.isAgg43 Try.sizeOf43 (by have h9 := of_decide_eq_true hc; simp only [Int.toNat_natCast, List.getElem?_map]; rw [hy0 (by simpa using h9)]; rfl) (by decide)) ?_
    refine ch_grd rfl (guard_t rfl rfl rfl) (fun hc => w_call rfl Try.call40 rfl (l23Ahead_spec _ _) (evl_cons (ev_whn rfl hc) (evl_cons (ev_whn rfl hc) evl_nil))) ?_
    refine ch_grd rfl (guard_t rfl rfl rfl) (fun hc => w_not rfl (ev_whn rfl hc)) ?_
    refine ch_plain rfl rfl (w_and rfl (ev_tmp rfl) (evif_w rfl)) ?_
    refine ch_nil ?_
    refine awp_cond (ev_tmp rfl) ?_ ?_
    · intro h33
      have hk2 : k < l.length ∧ l23Ahead x y = false := by simpa using h33
      rw [putR_stay hinv.1 hinv.2 (hy0 hk2.1) hk2.2 (hng hk2.1)]
      refine awp_seq ?_
      refine awp_region_any (by kernel_rfl) (by kernel_rfl) rfl ?_
      refine ch_plain rfl rfl (w_move rfl (ev_tmp rfl)) ?_
      refine ch_plain rfl rfl (w_move rfl (ev_tmp rfl)) ?_
      refine ch_plain rfl rfl (w_move rfl (ev_tmp rfl)) ?_
      refine ch_plain rfl rfl (w_aidx 1 rfl Try.underlying24 Try.sizeOf43 (ev_tmp rfl) rfl (ev_tmp rfl) (by omega) (by simp only [List.length_map]; omega)) ?_
      refine ch_plain rfl rfl (w_loadX 1 rfl (ev_tmp rfl) rfl Try.isAgg43 Try.sizeOf43 (by simp only [Int.toNat_natCast, List.getElem?_map]; rw [hy0 hk2.1]; rfl) (by decide)) ?_
      refine ch_plain rfl rfl (w_loadA 0 rfl (ev_tmp rfl) rfl Try.isAgg43 Try.sizeOf43 rfl) ?_
      refine ch_plain rfl rfl (w_aeql rfl Try.underlying43 (by kernel_rfl) (by kernel_rfl) (ev_tmp rfl) (ev_tmp rfl) (eqf_cons (by kernel_rfl) Try.isAgg3 rfl rfl (eqf_int Try.underlying3) (eqf_cons (by kernel_rfl) Try.isAgg3 rfl rfl (eqf_int Try.underlying3) (eqf_cons (by kernel_rfl) Try.isAgg9 rfl rfl (eqf_str Try.underlying9) (eqf_cons (by kernel_rfl) Try.isAgg9 rfl rfl (eqf_str Try.underlying9) (eqf_cons (by kernel_rfl) Try.isAgg4 rfl rfl (eqf_bool Try.underlying4) eqf_nil)))))) ?_
      refine ch_plain rfl rfl (w_assign rfl (ev_tmp rfl)) ?_
      refine ch_plain rfl rfl (w_assign rfl (ev_tmp rfl)) ?_
      refine ch_nil ?_
      refine awp_ret ?_
      exact retG [1] v (trivial) rfl (by first | rfl | exact congrArg (fun z => [Own.arr _ 43 5 z]) (put_cells _ _ _)) (resN rfl (by decide) (rv_cons (rv_tmp' rfl (by first | rfl | exact congrArg AV.bool (item_beq _ _))) (rv_cons (rv_tmp' rfl (by first | rfl | exact congrArg AV.bool (item_beq _ _))) rv_nil)))
    · intro h33
      rw [putR_end hinv.1 hinv.2 (fun z hz => by (have h7 := (List.getElem?_eq_some_iff.1 hz).1; rw [hy0 h7] at hz; injection hz with hz; subst hz; simpa [h7] using h33)) (fun z hz => by (have h7 := (List.getElem?_eq_some_iff.1 hz).1; rw [hy0 h7] at hz; injection hz with hz; subst hz; exact hng h7))]
      refine awp_skip ?_
      refine awp_seq ?_
      refine awp_region_mix _ [(1, false), (2, false), (3, false), (5, false), (6, false), (8, false), (9, false), (10, false), (0, true), (4, true), (7, true), (11, true)] (by kernel_rfl) (by kernel_rfl) rfl invx_self ?_
      refine bc_plain rfl rfl rfl (fun ext => w_move rfl (ev_tmp rfl)) ?_
      refine bc_plain rfl rfl rfl (fun ext => w_move rfl (ev_tmp rfl)) ?_
      refine bc_plain rfl rfl rfl (fun ext => w_ahiT 1 rfl Try.underlying24 Try.sizeOf43 (ev_tmp rfl) rfl (ev_tmp rfl) (by omega) (by simp only [List.length_map]; omega)) ?_
      refine bc_plain rfl rfl rfl (fun ext => w_loadA 0 rfl (ev_tmp rfl) rfl Try.isAgg43 Try.sizeOf43 rfl) ?_
      refine bc_plain rfl rfl rfl (fun ext => w_bslice rfl Try.underlying24 Try.sizeOf43 Try.zeroValue43 rfl rfl rfl rfl (bp_cons (ev_tmp rfl) (as_agg _) bp_nil) rfl rfl) ?_
      refine bc_plain rfl rfl rfl (fun ext => w_move rfl (ev_tmp rfl)) ?_
      refine bc_plain rfl rfl rfl (fun ext => w_move rfl (ev_tmp rfl)) ?_
      refine bc_plain rfl rfl rfl (fun ext => w_alo 1 rfl Try.underlying24 Try.sizeOf43 (ev_tmp rfl) rfl (ev_tmp rfl) (by omega) (by simp only [List.length_map]; omega)) ?_
      refine bc_eff rfl rfl rfl (opE_empty rfl Try.underlying24 Try.sizeOf43) (fun a _ => (by first | exact invx_mk rfl | exact invx_mk (List.append_assoc _ _ _) | exact invx_all)) ?_
      intro v41 _
      refine bc_eff rfl rfl rfl (opE_appendS (by' := 56) 2 rfl Try.underlying24 Try.type43 rfl rfl rfl rfl rfl rfl (ev_tmp rfl) (srcE_head 1 rfl (ev_tmp rfl) (by simp only [List.length_map, Int.toNat_natCast]; omega)) rfl (by simp only [List.length_nil, List.nil_append, List.length_append, List.length_take, List.length_drop, List.length_map, List.length_cons, chunks_len]; omega)) (fun a _ => (by first | exact invx_mk rfl | exact invx_mk (List.append_assoc _ _ _) | exact invx_all)) ?_
      intro v45_1 _
      refine bc_eff rfl rfl rfl (opE_append (by' := 56) 2 rfl Try.underlying24 Try.type43 rfl rfl rfl rfl rfl rfl (ev_tmp rfl) (ev_tmp rfl) rfl (by simp only [List.length_nil, List.nil_append, List.length_append, List.length_take, List.length_drop, List.length_map, List.length_cons, chunks_len]; omega)) (fun a _ => (by first | exact invx_mk rfl | exact invx_mk (List.append_assoc _ _ _) | exact invx_all)) ?_
      intro v48_2 _
      refine bc_eff rfl rfl rfl (opE_appendS (by' := 56) 2 rfl Try.underlying24 Try.type43 rfl rfl rfl rfl rfl rfl (ev_tmp rfl) (srcE_tail 1 rfl (ev_tmp rfl) (by simp only [List.length_map, Int.toNat_natCast]; omega)) rfl (by simp only [List.length_nil, List.nil_append, List.length_append, List.length_take, List.length_drop, List.length_map, List.length_cons, chunks_len]; omega)) (fun a _ => (by first | exact invx_mk rfl | exact invx_mk (List.append_assoc _ _ _) | exact invx_all)) ?_
      intro v52_3 _
      refine bc_nil ?_
      refine sq_plain rfl rfl rfl (w_assign rfl (ev_tmp rfl)) ?_
      refine sq_plain rfl rfl rfl (w_assign rfl ev_cb) ?_
      refine sq_nil ?_
      refine awp_ret ?_
      exact retG [2] v52_3 (trivial) rfl (by first | rfl | exact congrArg (fun z => [Own.arr _ 43 5 z]) (put_cells _ _ _)) (resN rfl (by decide) (rv_cons (rv_tmp' rfl (by first | rfl | exact congrArg AV.bool (item_beq _ _))) (rv_cons (rv_tmp' rfl (by first | rfl | exact congrArg AV.bool (item_beq _ _))) rv_nil)))

theorem mergeS_own (a b : List TFeedItem) (hsa : sizeL TFeedItem.size a ≤ 1048576) (hsb : sizeL TFeedItem.size b ≤ 1048576) : GSpec Try.prog 8 [AV.list 5 (a.map TFeedItem.cs), AV.list 5 (b.map TFeedItem.cs)] []
      (fun _ : Value => True) (fun v' => [.arr v' 43 5 ((mergeF a b).1.map TFeedItem.cs)]) (fun v' => AV.tup [AV.is v', AV.bool (mergeF a b).2]) := by
  have hal : a.length ≤ 1048576 := Nat.le_trans sizeL_len hsa
  have hbl : b.length ≤ 1048576 := Nat.le_trans sizeL_len hsb
  refine gspec_of_awp Try.func8 rfl Try.ntmps8 rfl ?_
  refine awp_seq ?_
  refine awp_region ?_
  refine sq_plain rfl rfl rfl (w_assign rfl ev_cnils) ?_
  refine sq_plain rfl rfl rfl (w_assign rfl ev_cb) ?_
  refine sq_nil ?_
  refine awp_seq ?_
  refine awp_seq ?_
  refine awp_region ?_
  refine sq_plain rfl rfl rfl (w_move rfl (ev_tmp rfl)) ?_
  refine sq_plain rfl rfl rfl (w_call rfl Try.call22 rfl (l23Feed_spec _ (by assumption)) (evl_cons (ev_tmp rfl) evl_nil)) ?_
  refine sq_plain rfl rfl rfl (w_not rfl (ev_tmp rfl)) ?_
  refine sq_plain rfl rfl rfl (w_move rfl (ev_tmp rfl)) ?_
  refine sq_grd rfl rfl (guard_f rfl rfl rfl) (fun hc => w_move rfl (ev_tmp rfl)) ?_
  refine sq_grd rfl rfl (guard_f rfl rfl rfl) (fun hc => w_call rfl Try.call22 rfl (l23Feed_spec _ (by assumption)) (evl_cons (ev_whn rfl hc) evl_nil)) ?_
  refine sq_grd rfl rfl (guard_f rfl rfl rfl) (fun hc => w_not rfl (ev_whn rfl hc)) ?_
  refine sq_plain rfl rfl rfl (w_or rfl (ev_tmp rfl) (evif_w rfl)) ?_
  refine sq_nil ?_
  refine awp_cond (ev_tmp rfl) ?_ ?_
  · intro h17
    have hno : mergeF a b = ([], false) := if_neg (by intro h; rw [h.1, h.2] at h17; cases h17)
    rw [hno]
    refine awp_seq ?_
    refine awp_region ?_
    refine sq_emptyarr rfl rfl rfl rfl Try.underlying24 Try.sizeOf43 ?_
    intro v18
    refine sq_plain rfl rfl rfl (w_assign rfl (ev_tmp rfl)) ?_
    refine sq_plain rfl rfl rfl (w_assign rfl ev_cb) ?_
    refine sq_nil ?_
    refine awp_ret ?_
    exact retG [0] v18 (trivial) rfl (by rfl) (resN rfl (by decide) (rv_cons (rv_tmp' rfl (by first | rfl | (refine congrArg AV.bool ?_; simp_all; done))) (rv_cons (rv_tmp' rfl (by first | rfl | (refine congrArg AV.bool ?_; simp_all; done))) rv_nil)))
  · intro h17
    have hgd : l23Feed a = true ∧ l23Feed b = true := by simpa using h17
    refine awp_skip ?_
    refine awp_seq ?_
    refine awp_region ?_
    refine sq_emptyarr rfl rfl rfl rfl Try.underlying24 Try.sizeOf43 ?_
    intro v19
    refine sq_plain rfl rfl rfl (w_move rfl (ev_tmp rfl)) ?_
    refine sq_append (by' := 56) 0 rfl rfl rfl rfl Try.underlying24 Try.type43 rfl rfl rfl rfl rfl rfl (ev_tmp rfl) (ev_tmp rfl) rfl (by first | omega | ((try simp only [List.length_map, List.length_take, List.length_cons, List.length_nil, chunks_len, szR] at *); omega) | (have hc2 := hc; simp only [Bool.and_eq_true, Bool.or_eq_true, Bool.or_eq_false_iff, Bool.and_eq_false_iff, Bool.not_eq_true', Bool.not_eq_false', decide_eq_true_eq, decide_eq_false_iff_not, beq_iff_eq, bne_iff_ne, List.length_map, List.length_take] at hc2; omega)) ?_
    intro v21_1
    refine sq_plain rfl rfl rfl (w_assign rfl (ev_tmp rfl)) ?_
    refine sq_nil ?_
    refine awp_seq ?_
    refine awp_seq ?_
    refine awp_region ?_
    refine sq_plain rfl rfl rfl (w_assign rfl ev_ci) ?_
    refine sq_nil ?_
    refine awp_block ?_
    refine awp_loop_i3 [(1, _)] _ (fun (i : Nat) (v : Value) (o : List TFeedItem) => i ≤ b.length ∧ mergeAll a b = mergeAll o (b.drop i) ∧ o.length ≤ a.length + i) (fun (i : Nat) (v : Value) (o : List TFeedItem) => [.arr v 43 5 (o.map TFeedItem.cs)]) (fun (i : Nat) (v : Value) (o : List TFeedItem) => [(6, AV.is v), (7, AV.int i)]) (fun (i : Nat) (v : Value) (o : List TFeedItem) => b.length - i) (0) (v21_1) (a) ?_ (le_eq (by rfl) ⟨rfl, rfl, rfl, trivial⟩) ?_
    · exact ⟨Nat.zero_le _, rfl, Nat.le_refl _⟩
    intro i v o hinv
    refine awp_seq ?_
    refine awp_seq ?_
    refine awp_region ?_
    refine sq_plain rfl rfl rfl (w_move rfl (ev_tmp rfl)) ?_
    refine sq_plain rfl rfl rfl (w_move rfl (ev_tmp rfl)) ?_
    refine sq_plain rfl rfl rfl (w_llen rfl Try.underlying24 (ev_tmp rfl)) ?_
    refine sq_plain rfl rfl rfl (w_lss rfl (ev_tmp rfl) (ev_tmp rfl)) ?_
    refine sq_nil ?_
    refine awp_cond (ev_tmp rfl) ?_ ?_
    · intro h25
      have k25 := of_decide_eq_true h25; try simp only [List.length_map] at k25
      have hlt : i < b.length := by omega
      obtain ⟨x, hx⟩ := get_some hlt
      refine awp_skip ?_
      refine awp_seq ?_
      refine awp_block ?_
      refine awp_seq ?_
      refine awp_region ?_
      refine sq_plain rfl rfl rfl (w_move rfl (ev_tmp rfl)) ?_
      refine sq_plain rfl rfl rfl (w_move rfl (ev_tmp rfl)) ?_
      refine sq_plain rfl rfl rfl (w_move rfl (ev_tmp rfl)) ?_
      refine sq_plain rfl rfl rfl (w_idxm rfl Try.underlying24 Try.sizeOf43 (ev_tmp rfl) (ev_tmp rfl) hx (by first | omega | ((try simp only [List.length_map, List.length_take, List.length_cons, List.length_nil, chunks_len, szR] at *); omega) | (have hc2 := hc; simp only [Bool.and_eq_true, Bool.or_eq_true, Bool.or_eq_false_iff, Bool.and_eq_false_iff, Bool.not_eq_true', Bool.not_eq_false', decide_eq_true_eq, decide_eq_false_iff_not, beq_iff_eq, bne_iff_ne, List.length_map, List.length_take] at hc2; omega))) ?_
      refine sq_plain rfl rfl rfl (w_loadE rfl (ev_tmp rfl) Try.isAgg43 Try.sizeOf43) ?_
      refine sq_callG [0] rfl rfl rfl rfl Try.call23 rfl (l23Put_own v o x (by omega)) (evl_cons (ev_tmp rfl) (evl_cons (ev_tmp rfl) evl_nil)) rfl ?_
      intro x34 ok34
      refine sq_plain rfl rfl rfl (w_move rfl (ev_tmp rfl)) ?_
      refine sq_plain rfl rfl rfl (w_extract rfl (ev_tmp rfl) rfl) ?_
      refine sq_plain rfl rfl rfl (w_extract rfl (ev_tmp rfl) rfl) ?_
      refine sq_plain rfl rfl rfl (w_assign rfl (ev_tmp rfl)) ?_
      refine sq_plain rfl rfl rfl (w_assign rfl (ev_tmp rfl)) ?_
      refine sq_nil ?_
      refine awp_seq ?_
      refine awp_seq ?_
      refine awp_region ?_
      refine sq_plain rfl rfl rfl (w_move rfl (ev_tmp rfl)) ?_
      refine sq_plain rfl rfl rfl (w_not rfl (ev_tmp rfl)) ?_
      refine sq_nil ?_
      refine awp_cond (ev_tmp rfl) ?_ ?_
      · intro h38
        have hno : mergeF a b = ([], false) := by (unfold mergeF; rw [if_pos hgd, mergeAll_stop hinv.2.1 hx (by simpa using h38)])
        rw [hno]
        refine awp_seq ?_
        refine awp_region ?_
        refine sq_emptyarr rfl rfl rfl rfl Try.underlying24 Try.sizeOf43 ?_
        intro v39
        refine sq_plain rfl rfl rfl (w_assign rfl (ev_tmp rfl)) ?_
        refine sq_plain rfl rfl rfl (w_assign rfl ev_cb) ?_
        refine sq_nil ?_
        refine awp_ret ?_
        exact retG [0] v39 (trivial) rfl (by rfl) (resN rfl (by decide) (rv_cons (rv_tmp' rfl (by first | rfl | (refine congrArg AV.bool ?_; simp_all; done))) (rv_cons (rv_tmp' rfl (by first | rfl | (refine congrArg AV.bool ?_; simp_all; done))) rv_nil)))
      · intro h38
        refine awp_skip ?_
        refine awp_region ?_
        refine sq_plain rfl rfl rfl (w_move rfl (ev_tmp rfl)) ?_
        refine sq_plain rfl rfl rfl (w_assign rfl (ev_tmp rfl)) ?_
        refine sq_nil ?_
        refine awp_region ?_
        refine sq_plain rfl rfl rfl (w_move rfl (ev_tmp rfl)) ?_
        refine sq_plain rfl rfl rfl (w_addi rfl (ev_tmp rfl) ev_ci (by first | omega | ((try simp only [List.length_map, List.length_take, List.length_cons, List.length_nil, chunks_len, szR] at *); omega) | (have hc2 := hc; simp only [Bool.and_eq_true, Bool.or_eq_true, Bool.or_eq_false_iff, Bool.and_eq_false_iff, Bool.not_eq_true', Bool.not_eq_false', decide_eq_true_eq, decide_eq_false_iff_not, beq_iff_eq, bne_iff_ne, List.length_map, List.length_take] at hc2; omega))) ?_
        refine sq_plain rfl rfl rfl (w_assign rfl (ev_tmp rfl)) ?_
        refine sq_nil ?_
        refine round_end3 i v o (i + 1) (x34) ((putR o x).1) ?_ ?_ (le_eq (by rfl) ⟨rfl, rfl, rfl, trivial⟩)
        · exact ⟨by omega, mergeAll_step hinv.2.1 hx (by simpa using h38), by have := putR_len x o; omega⟩
        · omega
    · intro h25
      have k25 := of_decide_eq_false h25; try simp only [List.length_map] at k25
      have hme := mergeAll_end hinv.2.1 (show b.length ≤ i by omega)
      refine awp_exit ?_
      refine awp_seq ?_
      refine awp_seq ?_
      refine awp_region ?_
      refine sq_plain rfl rfl rfl (w_move rfl (ev_tmp rfl)) ?_
      refine sq_plain rfl rfl rfl (w_alen 0 rfl Try.underlying24 (ev_tmp rfl) rfl) ?_
      refine sq_plain rfl rfl rfl (w_gtr rfl (ev_tmp rfl) ev_ci) ?_
      refine sq_nil ?_
      refine awp_cond (ev_tmp rfl) ?_ ?_
      · intro h43
        have k43 := of_decide_eq_true h43; try simp only [List.length_map] at k43
        have hno : mergeF a b = ([], false) := by (unfold mergeF; rw [if_pos hgd, hme]; exact if_pos (by omega))
        rw [hno]
        refine awp_seq ?_
        refine awp_region ?_
        refine sq_emptyarr rfl rfl rfl rfl Try.underlying24 Try.sizeOf43 ?_
        intro v44
        refine sq_plain rfl rfl rfl (w_assign rfl (ev_tmp rfl)) ?_
        refine sq_plain rfl rfl rfl (w_assign rfl ev_cb) ?_
        refine sq_nil ?_
        refine awp_ret ?_
        exact retG [0] v44 (trivial) rfl (by rfl) (resN rfl (by decide) (rv_cons (rv_tmp' rfl (by first | rfl | (refine congrArg AV.bool ?_; simp_all; done))) (rv_cons (rv_tmp' rfl (by first | rfl | (refine congrArg AV.bool ?_; simp_all; done))) rv_nil)))
      · intro h43
        have k43 := of_decide_eq_false h43; try simp only [List.length_map] at k43
        have hyes : mergeF a b = (o, true) := by (unfold mergeF; rw [if_pos hgd, hme]; exact if_neg (by omega))
        rw [hyes]
        refine awp_skip ?_
        refine awp_seq ?_
        refine awp_region ?_
        refine sq_plain rfl rfl rfl (w_move rfl (ev_tmp rfl)) ?_
        refine sq_plain rfl rfl rfl (w_assign rfl (ev_tmp rfl)) ?_
        refine sq_plain rfl rfl rfl (w_assign rfl ev_cb) ?_
        refine sq_nil ?_
        refine awp_ret ?_
        exact retG [0] v (trivial) rfl (by rfl) (resN rfl (by decide) (rv_cons (rv_tmp' rfl (by first | rfl | (refine congrArg AV.bool ?_; simp_all; done))) (rv_cons (rv_tmp' rfl (by first | rfl | (refine congrArg AV.bool ?_; simp_all; done))) rv_nil)))
theorem sortItems_own (v : Value) (l : List TFeedItem) (hl : l.length ≤ 1048576) : GSpec Try.prog 18 [AV.is v, AV.fun2 Try.prog (fun _ _ => True) (fun x : TFeedItem => AV.agg x.cs) (fun y : TFeedItem => AV.agg y.cs) (fun x y => AV.int (compareItems x y))] [.arr v 43 5 (l.map TFeedItem.cs)]
      (fun l' : List TFeedItem => l'.Perm l ∧ SortedOn (fun x y => decide (compareItems x y < 0)) l' 0 l.length) (fun l' => [.arr v 43 5 (l'.map TFeedItem.cs)]) (fun _ => AV.tup []) := stableFunc_own v l compareItems items_swo hl
theorem mergeI_own (a b : List TFeedItem) (hab : sizeL TFeedItem.size a + sizeL TFeedItem.size b ≤ 1048576) : GSpec Try.prog 7 [AV.list 5 (a.map TFeedItem.cs), AV.list 5 (b.map TFeedItem.cs)] []
      (fun _ : Value => True) (fun v' => [.arr v' 43 5 ((mergeF a b).1.map TFeedItem.cs)]) (fun v' => AV.tup [AV.is v', AV.bool (mergeF a b).2]) := by
  have hsa : sizeL TFeedItem.size a ≤ 1048576 := by omega
  have hsb : sizeL TFeedItem.size b ≤ 1048576 := by omega
  have hla : a.length ≤ sizeL TFeedItem.size a := sizeL_len
  have hlb : b.length ≤ sizeL TFeedItem.size b := sizeL_len
  refine gspec_of_awp Try.func7 rfl Try.ntmps7 rfl ?_
  refine awp_seq ?_
  refine awp_region ?_
  refine sq_plain rfl rfl rfl (w_assign rfl ev_cnils) ?_
  refine sq_plain rfl rfl rfl (w_assign rfl ev_cb) ?_
  refine sq_nil ?_
  refine awp_seq ?_
  refine awp_seq ?_
  refine awp_region ?_
  refine sq_plain rfl rfl rfl (w_move rfl (ev_tmp rfl)) ?_
  refine sq_plain rfl rfl rfl (w_call rfl Try.call10 rfl (goodFeed_spec _ (by assumption)) (evl_cons (ev_tmp rfl) evl_nil)) ?_
  refine sq_plain rfl rfl rfl (w_not rfl (ev_tmp rfl)) ?_
  refine sq_plain rfl rfl rfl (w_move rfl (ev_tmp rfl)) ?_
  refine sq_grd rfl rfl (guard_f rfl rfl rfl) (fun hc => w_move rfl (ev_tmp rfl)) ?_
  refine sq_grd rfl rfl (guard_f rfl rfl rfl) (fun hc => w_call rfl Try.call10 rfl (goodFeed_spec _ (by assumption)) (evl_cons (ev_whn rfl hc) evl_nil)) ?_
  refine sq_grd rfl rfl (guard_f rfl rfl rfl) (fun hc => w_not rfl (ev_whn rfl hc)) ?_
  refine sq_plain rfl rfl rfl (w_or rfl (ev_tmp rfl) (evif_w rfl)) ?_
  refine sq_nil ?_
  refine awp_cond (ev_tmp rfl) ?_ ?_
  · intro h14
    have hno : mergeF a b = ([], false) := if_neg (by intro h; rw [goodFeed_eq, goodFeed_eq, h.1, h.2] at h14; cases h14)
    rw [hno]
    refine awp_seq ?_
    refine awp_region ?_
    refine sq_plain rfl rfl rfl (w_assign rfl ev_cnils) ?_
    refine sq_plain rfl rfl rfl (w_assign rfl ev_cb) ?_
    refine sq_nil ?_
    refine awp_ret ?_
    refine retG_nil 43 5 ?_
    exact retG [0] (Value.slice none 0 0) (trivial) rfl (by rfl) (resN rfl (by decide) (rv_cons (rv_tmp' rfl (by first | rfl | (refine congrArg AV.bool ?_; simp_all; done))) (rv_cons (rv_tmp' rfl (by first | rfl | (refine congrArg AV.bool ?_; simp_all; done))) rv_nil)))
  · intro h14
    have hgd : l23Feed a = true ∧ l23Feed b = true := by simpa [goodFeed_eq] using h14
    refine awp_skip ?_
    refine awp_seq ?_
    refine awp_region ?_
    refine sq_plain rfl rfl rfl (w_move rfl (ev_tmp rfl)) ?_
    refine sq_plain rfl rfl rfl (w_move rfl (ev_tmp rfl)) ?_
    refine sq_plain rfl rfl rfl (w_bslice rfl Try.underlying57 Try.sizeOf24 Try.zeroValue24 rfl rfl rfl rfl (bp_cons (ev_tmp rfl) (as_list _ _) (bp_cons (ev_tmp rfl) (as_list _ _) bp_nil)) rfl rfl) ?_
    refine sq_callG [] rfl rfl rfl rfl Try.call17 rfl (concat_own [a, b] (by simp; omega)) (evl_cons (ev_tmp rfl) evl_nil) rfl ?_
    intro x18 ok18
    refine sq_plain rfl rfl rfl (w_assign rfl (ev_tmp rfl)) ?_
    refine sq_nil ?_
    refine awp_seq ?_
    refine awp_region ?_
    refine sq_plain rfl rfl rfl (w_move rfl (ev_tmp rfl)) ?_
    refine sq_callG [0] rfl rfl rfl rfl Try.call18 rfl (sortItems_own x18 ([a, b] : List (List TFeedItem)).flatten (by simp; omega)) (evl_cons (ev_tmp rfl) (evl_cons (ev_fun2 Try.call19 (fun a b _ => compareItems_spec a b)) evl_nil)) rfl ?_
    intro x20 ok20
    have hpl := ok20.1.length_eq
    have hln : x20.length ≤ 1048576 := by (rw [hpl]; simp; omega)
    have hmg : mergeI x20 = mergeF a b := merge_eq hgd.1 hgd.2 (ok20.1.trans (by simp)) (by rw [hpl, ← lt_ahead]; exact ok20.2)
    refine sq_nil ?_
    refine awp_seq ?_
    refine awp_region ?_
    refine sq_plain rfl rfl rfl (w_move rfl (ev_tmp rfl)) ?_
    refine sq_callG [0] rfl rfl rfl rfl Try.call20 rfl (compact_own x18 x20 (by omega)) (evl_cons (ev_tmp rfl) evl_nil) rfl ?_
    intro x22 ok22
    refine sq_plain rfl rfl rfl (w_assign rfl (ev_tmp rfl)) ?_
    refine sq_nil ?_
    refine awp_seq ?_
    refine awp_seq ?_
    refine awp_region ?_
    refine sq_plain rfl rfl rfl (w_move rfl (ev_tmp rfl)) ?_
    refine sq_plain rfl rfl rfl (w_callB rfl Try.call21 rfl (isFeed_spec _) (flat_bool _) (evlb_cons (evb_arr 0 (ev_tmp rfl) rfl) evlb_nil)) ?_
    refine sq_plain rfl rfl rfl (w_not rfl (ev_tmp rfl)) ?_
    refine sq_nil ?_
    refine awp_cond (ev_tmp rfl) ?_ ?_
    · intro h25
      have hno : mergeF a b = ([], false) := by (rw [← hmg]; exact if_neg (by simpa using h25))
      rw [hno]
      refine awp_seq ?_
      refine awp_region ?_
      refine sq_plain rfl rfl rfl (w_assign rfl ev_cnils) ?_
      refine sq_plain rfl rfl rfl (w_assign rfl ev_cb) ?_
      refine sq_nil ?_
      refine awp_ret ?_
      refine retG_nil 43 5 ?_
      exact retG [0] (Value.slice none 0 0) (trivial) rfl (by rfl) (resN rfl (by decide) (rv_cons (rv_tmp' rfl (by first | rfl | (refine congrArg AV.bool ?_; simp_all; done))) (rv_cons (rv_tmp' rfl (by first | rfl | (refine congrArg AV.bool ?_; simp_all; done))) rv_nil)))
    · intro h25
      have hyes : mergeF a b = (cmpL x20, true) := by (rw [← hmg]; exact if_pos (by simpa using h25))
      rw [hyes]
      refine awp_skip ?_
      refine awp_seq ?_
      refine awp_region ?_
      refine sq_plain rfl rfl rfl (w_move rfl (ev_tmp rfl)) ?_
      refine sq_plain rfl rfl rfl (w_assign rfl (ev_tmp rfl)) ?_
      refine sq_plain rfl rfl rfl (w_assign rfl ev_cb) ?_
      refine sq_nil ?_
      refine awp_ret ?_
      exact retG [0] x22 (trivial) rfl (by rfl) (resN rfl (by decide) (rv_cons (rv_tmp' rfl (by first | rfl | (refine congrArg AV.bool ?_; simp_all; done))) (rv_cons (rv_tmp' rfl (by first | rfl | (refine congrArg AV.bool ?_; simp_all; done))) rv_nil)))
end Go.Proofs.Ytcglmbinmfkafaa

set_option linter.unusedVariables false
set_option linter.unusedSimpArgs false
set_option maxRecDepth 100000
set_option maxHeartbeats 1000000
namespace Go.Proofs.Ytcglmbinmfkafaa
open Go Go.AV Go.M
attribute [local irreducible] OpW OpA OpS AWP FSpec ESpec GSpec OpE RetOk RetOkG RvDen Le Ev GuardIs SrcIs Int.tmod Int.tdiv IntKind.wrap bandI
theorem l23Make_own (b : Nat) (code : List Int) (hcode : ByteL code) (c : TCur) (hp : c.p ≤ 3000000) : GSpec Try.prog 31 [AV.ptr b 0] [.box b 39 (curC code c)] (fun x : TCur × List TFeedItem × Value => x.1.p ≤ c.p + 202 ∧ x.2.1.length ≤ 8 ∧ ∀ z ∈ x.2.1, z.size ≤ 128) (fun x => [.box b 39 (curC code x.1), .arr x.2.2 43 5 (x.2.1.map TFeedItem.cs)]) (fun x => AV.is x.2.2) := by
  refine gspec_of_awp Try.func31 rfl Try.ntmps31 rfl ?_
  refine awp_seq ?_
  refine awp_region ?_
  refine sq_plain rfl rfl rfl (w_assign rfl ev_cnils) ?_
  refine sq_nil ?_
  refine awp_seq ?_
  refine awp_region ?_
  refine sq_emptyarr rfl rfl rfl rfl Try.underlying24 Try.sizeOf43 ?_
  intro v6
  refine sq_plain rfl rfl rfl (w_assign rfl (ev_tmp rfl)) ?_
  refine sq_nil ?_
  refine awp_seq ?_
  refine awp_region ?_
  refine sq_plain rfl rfl rfl (w_move rfl (ev_tmp rfl)) ?_
  refine sq_callG [1] rfl rfl rfl rfl Try.call46 rfl (curPick_own _ _ hcode _ _ (by omega) (by omega)) (evl_cons (ev_tmp rfl) (evl_cons ev_ci evl_nil)) rfl ?_
  intro x8 ok8
  refine sq_plain rfl rfl rfl (w_assign rfl (ev_tmp rfl)) ?_
  refine sq_nil ?_
  refine awp_seq ?_
  refine awp_seq ?_
  refine awp_region ?_
  refine sq_plain rfl rfl rfl (w_assign rfl ev_ci) ?_
  refine sq_nil ?_
  refine awp_block ?_
  refine AWP.le (le_pick [0, 0] rfl) ?_
  refine awp_loop_i4 [(0, _), (2, _), (4, _)] _ (fun (i : Nat) (cc : TCur) (l : List TFeedItem) (v : Value) => i ≤ 8 ∧ cc.p ≤ c.p + 2 + 20 * i ∧ l.length ≤ i ∧ ∀ z ∈ l, z.size ≤ 128) (fun (i : Nat) (cc : TCur) (l : List TFeedItem) (v : Value) => [.box b 39 (curC code cc), .arr v 43 5 (l.map TFeedItem.cs)]) (fun (i : Nat) (cc : TCur) (l : List TFeedItem) (v : Value) => [(3, AV.is v), (5, AV.int i)]) (fun (i : Nat) (cc : TCur) (l : List TFeedItem) (v : Value) => 8 - i) (0) (x8.1) ([]) (v6) ?_ (le_eq (by rfl) ⟨rfl, rfl, rfl, rfl, rfl, trivial⟩) ?_
  · exact ⟨Nat.zero_le _, by omega, Nat.le_refl _, fun z h => by cases h⟩
  intro i cc l v hinv
  refine awp_seq ?_
  refine awp_seq ?_
  refine awp_region ?_
  refine sq_plain rfl rfl rfl (w_move rfl (ev_tmp rfl)) ?_
  refine sq_plain rfl rfl rfl (w_move rfl (ev_tmp rfl)) ?_
  refine sq_plain rfl rfl rfl (w_lss rfl (ev_tmp rfl) (ev_tmp rfl)) ?_
  refine sq_nil ?_
  refine awp_cond (ev_tmp rfl) ?_ ?_
  · intro h11
    have k11 := of_decide_eq_true h11; try simp only [List.length_map] at k11
    have hlt : i < 8 := by omega
    refine awp_skip ?_
    refine awp_seq ?_
    refine awp_block ?_
    refine awp_region ?_
    refine sq_plain rfl rfl rfl (w_move rfl (ev_tmp rfl)) ?_
    refine sq_plain rfl rfl rfl (w_move rfl (ev_tmp rfl)) ?_
    refine sq_callG [0] rfl rfl rfl rfl Try.call33 rfl (l23Item_own _ _ hcode _ (by omega)) (evl_cons (ev_tmp rfl) evl_nil) rfl ?_
    intro x17 ok17
    refine sq_callG [1] rfl rfl rfl rfl Try.call23 rfl (l23Put_own v l x17.2 (by omega)) (evl_cons (ev_tmp rfl) (evl_cons (ev_tmp rfl) evl_nil)) rfl ?_
    intro x18 ok18
    refine sq_plain rfl rfl rfl (w_move rfl (ev_tmp rfl)) ?_
    refine sq_plain rfl rfl rfl (w_extract rfl (ev_tmp rfl) rfl) ?_
    refine sq_plain rfl rfl rfl (w_extract rfl (ev_tmp rfl) rfl) ?_
    refine sq_plain rfl rfl rfl (w_assign rfl (ev_tmp rfl)) ?_
    refine sq_nil ?_
    refine awp_region ?_
    refine sq_plain rfl rfl rfl (w_move rfl (ev_tmp rfl)) ?_
    refine sq_plain rfl rfl rfl (w_addi rfl (ev_tmp rfl) ev_ci (by first | omega | ((try simp only [List.length_map, List.length_take, List.length_cons, List.length_nil, chunks_len, szR] at *); omega) | (have hc2 := hc; simp only [Bool.and_eq_true, Bool.or_eq_true, Bool.or_eq_false_iff, Bool.and_eq_false_iff, Bool.not_eq_true', Bool.not_eq_false', decide_eq_true_eq, decide_eq_false_iff_not, beq_iff_eq, bne_iff_ne, List.length_map, List.length_take] at hc2; omega))) ?_
    refine sq_plain rfl rfl rfl (w_assign rfl (ev_tmp rfl)) ?_
    refine sq_nil ?_
    refine round_end4 i cc l v (i + 1) (x17.1) ((putR l x17.2).1) (x18) ?_ ?_ (Le.trans (le_pick [1, 0] rfl) (le_eq (by rfl) ⟨rfl, rfl, rfl, rfl, rfl, trivial⟩))
    · exact ⟨by omega, by omega, by have := putR_len x17.2 l; omega, fun z hz => (putR_mem _ _ z hz).elim (hinv.2.2.2 z) fun e => e ▸ ok17.2.1⟩
    · omega
  · intro h11
    have k11 := of_decide_eq_false h11; try simp only [List.length_map] at k11
    refine awp_exit ?_
    refine awp_seq ?_
    refine awp_region ?_
    refine sq_plain rfl rfl rfl (w_move rfl (ev_tmp rfl)) ?_
    refine sq_plain rfl rfl rfl (w_assign rfl (ev_tmp rfl)) ?_
    refine sq_nil ?_
    refine awp_ret ?_
    (refine retG [0, 0] ((cc, l, v)) ?_ rfl (by first | (dsimp only; rfl) | rfl) (resR rfl (rv_tmp' rfl (by rfl))); exact ⟨show cc.p ≤ _ by omega, show l.length ≤ _ by omega, hinv.2.2.2⟩)
theorem l23Odd_own (b : Nat) (code : List Int) (hcode : ByteL code) (c : TCur) (hp : c.p ≤ 2000000) : GSpec Try.prog 16 [AV.ptr b 0] [.box b 39 (curC code c)] (fun x : TCur × List TFeedItem × Value => x.1.p ≤ c.p + 260 ∧ x.2.1.length ≤ 9 ∧ ∀ z ∈ x.2.1, z.size ≤ 128) (fun x => [.box b 39 (curC code x.1), .arr x.2.2 43 5 (x.2.1.map TFeedItem.cs)]) (fun x => AV.is x.2.2) := by
  refine gspec_of_awp Try.func16 rfl Try.ntmps16 rfl ?_
  refine awp_seq ?_
  refine awp_region ?_
  refine sq_plain rfl rfl rfl (w_assign rfl ev_cnils) ?_
  refine sq_nil ?_
  refine awp_seq ?_
  refine awp_region ?_
  refine sq_plain rfl rfl rfl (w_move rfl (ev_tmp rfl)) ?_
  refine sq_callG [0] rfl rfl rfl rfl Try.call31 rfl (l23Make_own _ _ hcode _ (by omega)) (evl_cons (ev_tmp rfl) evl_nil) rfl ?_
  intro x5 ok5
  refine sq_plain rfl rfl rfl (w_assign rfl (ev_tmp rfl)) ?_
  refine sq_nil ?_
  refine awp_seq ?_
  refine awp_seq ?_
  refine awp_region ?_
  refine sq_plain rfl rfl rfl (w_move rfl (ev_tmp rfl)) ?_
  refine sq_callG [0] rfl rfl rfl rfl Try.call32 rfl (curOne_own _ _ hcode _ _ (by omega) (by omega)) (evl_cons (ev_tmp rfl) (evl_cons ev_ci evl_nil)) rfl ?_
  intro x7 ok7
  refine sq_nil ?_
  refine awp_cond (ev_tmp rfl) ?_ ?_
  · intro h7
    refine awp_region ?_
    refine sq_plain rfl rfl rfl (w_move rfl (ev_tmp rfl)) ?_
    refine sq_plain rfl rfl rfl (w_move rfl (ev_tmp rfl)) ?_
    refine sq_callG [0] rfl rfl rfl rfl Try.call33 rfl (l23Item_own _ _ hcode _ (by omega)) (evl_cons (ev_tmp rfl) evl_nil) rfl ?_
    intro x10 ok10
    refine sq_plain rfl rfl rfl (w_bslice rfl Try.underlying24 Try.sizeOf43 Try.zeroValue43 rfl rfl rfl rfl (bp_cons (ev_tmp rfl) (as_agg _) bp_nil) rfl rfl) ?_
    refine sq_append (by' := 56) 1 rfl rfl rfl rfl Try.underlying24 Try.type43 rfl rfl rfl rfl rfl rfl (ev_tmp rfl) (ev_tmp rfl) rfl (by first | omega | ((try simp only [List.length_map, List.length_take, List.length_cons, List.length_nil, chunks_len, szR] at *); omega) | (have hc2 := hc; simp only [Bool.and_eq_true, Bool.or_eq_true, Bool.or_eq_false_iff, Bool.and_eq_false_iff, Bool.not_eq_true', Bool.not_eq_false', decide_eq_true_eq, decide_eq_false_iff_not, beq_iff_eq, bne_iff_ne, List.length_map, List.length_take] at hc2; omega)) ?_
    intro v12_1
    refine sq_plain rfl rfl rfl (w_assign rfl (ev_tmp rfl)) ?_
    refine sq_nil ?_
    refine awp_seq ?_
    refine awp_region ?_
    refine sq_plain rfl rfl rfl (w_move rfl (ev_tmp rfl)) ?_
    refine sq_plain rfl rfl rfl (w_assign rfl (ev_tmp rfl)) ?_
    refine sq_nil ?_
    refine awp_ret ?_
    (refine retG [0, 0] ((x10.1, x5.2.1 ++ [x10.2], v12_1)) ?_ rfl (by first | rfl | (rw [List.map_append]; rfl)) (resR rfl (rv_tmp' rfl (by rfl))); (dsimp only; first | exact ⟨by omega, by omega, ok5.2.2⟩ | exact ⟨by omega, by rw [List.length_append, List.length_cons, List.length_nil]; omega, fun z hz => (List.mem_append.1 hz).elim (ok5.2.2 z) fun e => by rw [List.mem_singleton.1 e]; exact ok10.2.1⟩))
  · intro h7
    refine awp_skip ?_
    refine awp_seq ?_
    refine awp_region ?_
    refine sq_plain rfl rfl rfl (w_move rfl (ev_tmp rfl)) ?_
    refine sq_plain rfl rfl rfl (w_assign rfl (ev_tmp rfl)) ?_
    refine sq_nil ?_
    refine awp_ret ?_
    (refine retG [0, 0] ((x7.1, x5.2.1, x5.2.2)) ?_ rfl (by first | rfl | (rw [List.map_append]; rfl)) (resR rfl (rv_tmp' rfl (by rfl))); (dsimp only; first | exact ⟨by omega, by omega, ok5.2.2⟩ | exact ⟨by omega, by rw [List.length_append, List.length_cons, List.length_nil]; omega, fun z hz => (List.mem_append.1 hz).elim (ok5.2.2 z) fun e => by rw [List.mem_singleton.1 e]; exact ok10.2.1⟩))
theorem drawMergeFeed_own (code : List Int) (hcode : ByteL code) : GSpec Try.prog 6 [bytesI code] [] (fun x : List TFeedItem × List TFeedItem => (x.1.length ≤ 9 ∧ ∀ z ∈ x.1, z.size ≤ 128) ∧ x.2.length ≤ 9 ∧ ∀ z ∈ x.2, z.size ≤ 128) (fun x => []) (fun x => AV.tup [AV.list 5 (x.1.map TFeedItem.cs), AV.list 5 (x.2.map TFeedItem.cs)]) := by
  refine gspec_of_awp Try.func6 rfl Try.ntmps6 rfl ?_
  refine awp_seq ?_
  refine awp_region ?_
  refine sq_plain rfl rfl rfl (w_assign rfl ev_cnils) ?_
  refine sq_plain rfl rfl rfl (w_assign rfl ev_cnils) ?_
  refine sq_nil ?_
  refine awp_seq ?_
  refine awp_region ?_
  refine sq_plain rfl rfl rfl (w_move rfl (ev_tmp rfl)) ?_
  refine sq_plain rfl rfl rfl (w_build (places := #[(0, 1), (1, 1), (2, 1)]) rfl Try.underlying39 Try.zeroValue39 (fun w => by kernel_rfl) rfl (bp_cons (ev_tmp rfl) (as_list _ _) bp_nil) rfl) ?_
  refine sq_box rfl rfl rfl rfl (ev_tmp rfl) ?_
  intro b8
  refine sq_plain rfl rfl rfl (w_assign rfl (ev_tmp rfl)) ?_
  refine sq_nil ?_
  refine awp_seq ?_
  refine awp_region ?_
  refine sq_plain rfl rfl rfl (w_move rfl (ev_tmp rfl)) ?_
  refine sq_callG [0] rfl rfl rfl rfl Try.call16 rfl (l23Odd_own _ _ hcode ⟨0, 0⟩ (by decide)) (evl_cons (ev_tmp rfl) evl_nil) rfl ?_
  intro x10 ok10
  have hp10 : x10.1.p ≤ 260 := ok10.1
  refine sq_plain rfl rfl rfl (w_assign rfl (ev_tmp rfl)) ?_
  refine sq_nil ?_
  refine awp_seq ?_
  refine awp_region ?_
  refine sq_plain rfl rfl rfl (w_move rfl (ev_tmp rfl)) ?_
  refine sq_plain rfl rfl rfl (w_move rfl (ev_tmp rfl)) ?_
  refine sq_callG [0] rfl rfl rfl rfl Try.call16 rfl (l23Odd_own _ _ hcode _ (by omega)) (evl_cons (ev_tmp rfl) evl_nil) rfl ?_
  intro x13 ok13
  refine sq_le (le_sealD [2] 11 rfl rfl (lt_arr (List.mem_of_getElem? (i := 0) rfl) le_refl_e) gin_nil) ?_
  refine sq_le (le_sealD [1] 13 rfl rfl (lt_arr (List.mem_of_getElem? (i := 0) rfl) le_refl_e) gin_nil) ?_
  refine sq_plain rfl rfl rfl (w_assign rfl (ev_tmp rfl)) ?_
  refine sq_plain rfl rfl rfl (w_assign rfl (ev_tmp rfl)) ?_
  refine sq_nil ?_
  refine awp_ret ?_
  (refine retG [] ((x10.2.1, x13.2.1)) ?_ rfl (by first | (dsimp only; rfl) | rfl) (resN rfl (by decide) (rv_cons (rv_tmp' rfl (by rfl)) (rv_cons (rv_tmp' rfl (by rfl)) rv_nil))); exact ⟨ok10.2, ok13.2⟩)
theorem vBig_spec (code : List Int) : FSpec Try.prog 5 [bytesI code] (AV.bool (decide (65536 < (code.length : Int)))) := by
  refine spec_of_awp Try.func5 rfl Try.ntmps5 rfl ?_
  refine awp_len (t := 0) rfl fun hl0 => ?_
  try simp only [List.length_map] at hl0
  refine awp_seq ?_
  refine awp_region ?_
  refine sq_plain rfl rfl rfl (w_assign rfl ev_cb) ?_
  refine sq_nil ?_
  refine awp_seq ?_
  refine awp_region ?_
  refine sq_plain rfl rfl rfl (w_move rfl (ev_tmp rfl)) ?_
  refine sq_plain rfl rfl rfl (w_llen rfl Try.underlying22 (ev_tmp rfl)) ?_
  refine sq_plain rfl rfl rfl (w_gtr rfl (ev_tmp rfl) ev_ci) ?_
  refine sq_plain rfl rfl rfl (w_assign rfl (ev_tmp rfl)) ?_
  refine sq_nil ?_
  refine awp_ret ?_
  exact retR rfl (rv_tmp' rfl (by (refine congrArg AV.bool ?_; simp only [List.length_map])))
theorem vItems_spec (a b : List TFeedItem) : FSpec Try.prog 9 [AV.list 5 (a.map TFeedItem.cs), AV.list 5 (b.map TFeedItem.cs)] (AV.bool (decide (a = b))) := by
  refine spec_of_awp Try.func9 rfl Try.ntmps9 rfl ?_
  refine awp_len (t := 0) rfl fun hl => ?_
  try simp only [List.length_map] at hl
  refine awp_len (t := 1) rfl fun hl2 => ?_
  try simp only [List.length_map] at hl2
  refine awp_seq ?_
  refine awp_region ?_
  refine sq_plain rfl rfl rfl (w_assign rfl ev_cb) ?_
  refine sq_nil ?_
  refine awp_seq ?_
  refine awp_seq ?_
  refine awp_region ?_
  refine sq_plain rfl rfl rfl (w_move rfl (ev_tmp rfl)) ?_
  refine sq_plain rfl rfl rfl (w_llen rfl Try.underlying24 (ev_tmp rfl)) ?_
  refine sq_plain rfl rfl rfl (w_move rfl (ev_tmp rfl)) ?_
  refine sq_plain rfl rfl rfl (w_llen rfl Try.underlying24 (ev_tmp rfl)) ?_
  refine sq_plain rfl rfl rfl (w_neq rfl (ev_tmp rfl) (ev_tmp rfl)) ?_
  refine sq_nil ?_
  refine awp_cond (ev_tmp rfl) ?_ ?_
  · intro h10
    have k10 := ne_of_bne h10; try simp only [List.length_map] at k10
    have hne : decide (a = b) = false := decide_eq_false fun e => by (subst e; omega)
    rw [hne]
    refine awp_seq ?_
    refine awp_region ?_
    refine sq_plain rfl rfl rfl (w_assign rfl ev_cb) ?_
    refine sq_nil ?_
    refine awp_ret ?_
    exact retR rfl (rv_tmp' rfl (by rfl))
  · intro h10
    have k10 := eq_of_bne_false h10; try simp only [List.length_map] at k10
    refine awp_skip ?_
    refine awp_seq ?_
    refine awp_seq ?_
    refine awp_region ?_
    refine sq_plain rfl rfl rfl (w_assign rfl ev_ci) ?_
    refine sq_nil ?_
    refine awp_block ?_
    refine awp_loop_i [(0, _), (1, _)] _ (fun (i : Nat) => i ≤ a.length ∧ a.take i = b.take i) (fun (i : Nat) => []) (fun (i : Nat) => [(5, AV.int i)]) (fun (i : Nat) => a.length - i) (0) ?_ (le_env ⟨rfl, rfl, rfl, trivial⟩) ?_
    · exact ⟨Nat.zero_le _, rfl⟩
    intro i hinv
    refine awp_seq ?_
    refine awp_seq ?_
    refine awp_region ?_
    refine sq_plain rfl rfl rfl (w_move rfl (ev_tmp rfl)) ?_
    refine sq_plain rfl rfl rfl (w_move rfl (ev_tmp rfl)) ?_
    refine sq_plain rfl rfl rfl (w_llen rfl Try.underlying24 (ev_tmp rfl)) ?_
    refine sq_plain rfl rfl rfl (w_lss rfl (ev_tmp rfl) (ev_tmp rfl)) ?_
    refine sq_nil ?_
    refine awp_cond (ev_tmp rfl) ?_ ?_
    · intro h14
      have k14 := of_decide_eq_true h14; try simp only [List.length_map] at k14
      have hlt : i < a.length := by omega
      obtain ⟨x, hx⟩ := get_some hlt
      obtain ⟨y, hy⟩ := get_some (show i < b.length by omega)
      refine awp_skip ?_
      refine awp_seq ?_
      refine awp_block ?_
      refine awp_seq ?_
      refine awp_region_any (by kernel_rfl) (by kernel_rfl) rfl ?_
      refine ch_plain rfl rfl (w_move rfl (ev_tmp rfl)) ?_
      refine ch_plain rfl rfl (w_move rfl (ev_tmp rfl)) ?_
      refine ch_plain rfl rfl (w_idxm rfl Try.underlying24 Try.sizeOf43 (ev_tmp rfl) (ev_tmp rfl) hx (by first | omega | ((try simp only [List.length_map, List.length_take, List.length_cons, List.length_nil, chunks_len, szR] at *); omega) | (have hc2 := hc; simp only [Bool.and_eq_true, Bool.or_eq_true, Bool.or_eq_false_iff, Bool.and_eq_false_iff, Bool.not_eq_true', Bool.not_eq_false', decide_eq_true_eq, decide_eq_false_iff_not, beq_iff_eq, bne_iff_ne, List.length_map, List.length_take] at hc2; omega))) ?_
      refine ch_plain rfl rfl (w_loadE rfl (ev_tmp rfl) Try.isAgg43 Try.sizeOf43) ?_
      refine ch_plain rfl rfl (w_move rfl (ev_tmp rfl)) ?_
      refine ch_plain rfl rfl (w_move rfl (ev_tmp rfl)) ?_
      refine ch_plain rfl rfl (w_idxm rfl Try.underlying24 Try.sizeOf43 (ev_tmp rfl) (ev_tmp rfl) hy (by first | omega | ((try simp only [List.length_map, List.length_take, List.length_cons, List.length_nil, chunks_len, szR] at *); omega) | (have hc2 := hc; simp only [Bool.and_eq_true, Bool.or_eq_true, Bool.or_eq_false_iff, Bool.and_eq_false_iff, Bool.not_eq_true', Bool.not_eq_false', decide_eq_true_eq, decide_eq_false_iff_not, beq_iff_eq, bne_iff_ne, List.length_map, List.length_take] at hc2; omega))) ?_
      refine ch_plain rfl rfl (w_loadE rfl (ev_tmp rfl) Try.isAgg43 Try.sizeOf43) ?_
      refine ch_plain rfl rfl (w_aneq rfl Try.underlying43 (by kernel_rfl) (by kernel_rfl) (ev_tmp rfl) (ev_tmp rfl) (eqf_cons (by kernel_rfl) Try.isAgg3 rfl rfl (eqf_int Try.underlying3) (eqf_cons (by kernel_rfl) Try.isAgg3 rfl rfl (eqf_int Try.underlying3) (eqf_cons (by kernel_rfl) Try.isAgg9 rfl rfl (eqf_str Try.underlying9) (eqf_cons (by kernel_rfl) Try.isAgg9 rfl rfl (eqf_str Try.underlying9) (eqf_cons (by kernel_rfl) Try.isAgg4 rfl rfl (eqf_bool Try.underlying4) eqf_nil)))))) ?_
      refine ch_nil ?_
      refine awp_cond (ev_tmp rfl) ?_ ?_
      · intro h25
        have hne : decide (a = b) = false := decide_eq_false fun e => by (subst e; rw [hx] at hy; injection hy with hy; rw [item_beq] at h25; simp [hy] at h25)
        rw [hne]
        refine awp_seq ?_
        refine awp_region ?_
        refine sq_plain rfl rfl rfl (w_assign rfl ev_cb) ?_
        refine sq_nil ?_
        refine awp_ret ?_
        exact retR rfl (rv_tmp' rfl (by rfl))
      · intro h25
        refine awp_skip ?_
        refine awp_region ?_
        refine sq_plain rfl rfl rfl (w_move rfl (ev_tmp rfl)) ?_
        refine sq_plain rfl rfl rfl (w_addi rfl (ev_tmp rfl) ev_ci (by first | omega | ((try simp only [List.length_map, List.length_take, List.length_cons, List.length_nil, chunks_len, szR] at *); omega) | (have hc2 := hc; simp only [Bool.and_eq_true, Bool.or_eq_true, Bool.or_eq_false_iff, Bool.and_eq_false_iff, Bool.not_eq_true', Bool.not_eq_false', decide_eq_true_eq, decide_eq_false_iff_not, beq_iff_eq, bne_iff_ne, List.length_map, List.length_take] at hc2; omega))) ?_
        refine sq_plain rfl rfl rfl (w_assign rfl (ev_tmp rfl)) ?_
        refine sq_nil ?_
        refine round_end i (i + 1) ?_ ?_ (le_env ⟨rfl, rfl, rfl, trivial⟩)
        · exact ⟨by omega, by rw [List.take_add_one, List.take_add_one, hinv.2, hx, hy]; congr 2; rw [item_beq] at h25; simpa using h25⟩
        · omega
    · intro h14
      have k14 := of_decide_eq_false h14; try simp only [List.length_map] at k14
      have hyes : decide (a = b) = true := decide_eq_true (by have h9 := hinv.2; rw [List.take_of_length_le (by omega), List.take_of_length_le (by omega)] at h9; exact h9)
      rw [hyes]
      refine awp_exit ?_
      refine awp_seq ?_
      refine awp_region ?_
      refine sq_plain rfl rfl rfl (w_assign rfl ev_cb) ?_
      refine sq_nil ?_
      refine awp_ret ?_
      exact retR rfl (rv_tmp' rfl (by rfl))
end Go.Proofs.Ytcglmbinmfkafaa

set_option linter.unusedVariables false
set_option linter.unusedSimpArgs false
namespace Go.AV
open Go.ChangeShapes Go.WideShapes Go.ChangeAt Go.RowKit

def heapR (w : World) : RHeap := fun b => w.heap[b]?
theorem heapR_le (w : World) : RLe (heapR w) w := fun _ _ h => h
theorem rcell_heap {w : World} {a : Addr} {v : Value} (h : w.cell? a = some v) : rcell (heapR w) a = some v := h

/-- Cells that read as data of type t denote some a. -/
def Opens (P : Program) (t : TypeId) (α : Type) (enc : α → List AV) (ok : α → Prop) : Prop :=
  ∀ (H : Type) (en : TypeId × Value → H) (w : World) (base : Nat) (spare : Nat → Bool) (held : Bool) (fuel : Nat) (cs : List Value) (x : DataW H × List MemPlace),
    DataW.trod en P w base spare held fuel t cs = some x → ∃ a : α, ok a ∧ DenC (heapR w) cs (enc a)
theorem denC_one {R : RHeap} {v : Value} {x : AV} (h : x.den R v) (h1 : v.oneCell' = true) : DenC R [v] [x] :=
  ⟨rfl, fun i u y hu hy => by
    cases i with
    | zero => simp at hu hy; subst hu; subst hy; exact ⟨h, h1⟩
    | succ i => simp at hu⟩
theorem denC_append {R : RHeap} {vs us : List Value} {xs ys : List AV} (h : DenC R vs xs) (k : DenC R us ys) : DenC R (vs ++ us) (xs ++ ys) :=
  ⟨by simp [h.1, k.1], fun i v x hv hx => by
    by_cases hi : i < vs.length
    · rw [List.getElem?_append_left hi] at hv
      rw [List.getElem?_append_left (by rw [← h.1]; exact hi)] at hx
      exact h.2 i v x hv hx
    · rw [List.getElem?_append_right (by omega)] at hv
      rw [List.getElem?_append_right (by rw [← h.1]; omega), ← h.1] at hx
      exact k.2 _ v x hv hx⟩
section
variable {P : Program} {t e : TypeId}
theorem opens_int {k : IntKind} (ht : P.underlying t = some (.int k)) : Opens P t Int (fun n => [AV.ik k n]) (fun n => (Lit.int k n).wf = true) := fun H en w base spare held fuel cs x h => by
  obtain ⟨n, rfl, _, hw⟩ := DataW.trod_int ht h
  exact ⟨n, hw, denC_one rfl rfl⟩
theorem opens_bool (ht : P.underlying t = some .bool) : Opens P t Bool (fun b => [AV.bool b]) (fun _ => True) := fun H en w base spare held fuel cs x h => by
  obtain ⟨b, rfl, _⟩ := DataW.trod_bool ht h
  exact ⟨b, trivial, denC_one rfl rfl⟩
theorem opens_str (ht : P.underlying t = some .string) : Opens P t (List UInt8) (fun s => [AV.str s]) (fun s => s.length ≤ 9223372036854775807) := fun H en w base spare held fuel cs x h => by
  obtain ⟨s, rfl, _, hs⟩ := DataW.trod_string ht h
  refine ⟨s.data.toList, ?_, denC_one (show _ = _ by simp) rfl⟩
  unfold maxLen at hs
  show s.data.toList.length ≤ _
  rw [Array.length_toList]
  have e : s.data.size = s.size := rfl
  omega
theorem list_of {α : Type} {p : Nat → α → Prop} : ∀ n, (∀ i, i < n → ∃ a, p i a) → ∃ l : List α, l.length = n ∧ ∀ (i : Nat) (a : α), l[i]? = some a → p i a
  | 0, _ => ⟨[], rfl, fun i a h => by simp at h⟩
  | n + 1, h => by
    obtain ⟨l, h1, h2⟩ := list_of n fun i hi => h i (by omega)
    obtain ⟨a, ha⟩ := h n (by omega)
    refine ⟨l ++ [a], by simp [h1], fun i b hb => ?_⟩
    by_cases hi : i < l.length
    · rw [List.getElem?_append_left hi] at hb; exact h2 i b hb
    · rw [List.getElem?_append_right (by omega)] at hb
      have hin : i = n := by
        have := (List.getElem?_eq_some_iff.1 hb).1
        simp at this; omega
      subst hin
      rw [h1] at hb; simp at hb; subst hb; exact ha
theorem opens_slice {α : Type} {enc : α → List AV} {ok : α → Prop} {sz : Nat} (ht : P.underlying t = some (.slice e)) (hc : P.cellsOf e = sz) (h : Opens P e α enc ok) (hl : ∀ a, (enc a).length = sz) :
    Opens P t (List α) (fun l => [AV.list sz (l.map enc)]) (fun l => ∀ a ∈ l, ok a) := fun H en w base spare held fuel cs x hx => by
  rcases DataW.trod_slice ht hx with ⟨rfl, _⟩ | ⟨a, len, cap, elems, rest, n, _, rfl, _, _, hlc, hcm, hel, hi, _, _⟩
  · exact ⟨[], by simp, denC_one ⟨none, 0, rfl, Nat.le_refl _, Nat.zero_le _, by simp, fun h => absurd rfl h⟩ rfl⟩
  · obtain ⟨l, h1, h2⟩ := list_of (p := fun i b => ok b ∧ ∃ cs', w.cells? base (a.add (i * sz)) sz = some cs' ∧ DenC (heapR w) cs' (enc b)) len fun i hil => by
      have := hi i hil
      rw [hc, List.getElem?_eq_getElem (by omega)] at this
      obtain ⟨cs', hcs, htr⟩ := Option.bind_eq_some_iff.1 this
      obtain ⟨b, hb, hd⟩ := h H en w base spare held n cs' _ htr
      exact ⟨b, hb, cs', hcs, hd⟩
    refine ⟨l, fun b hb => ?_, denC_one ⟨some a, cap, by rw [List.length_map, h1], by rw [List.length_map, h1]; exact hlc, hcm, fun ec he => ?_, fun _ => ⟨a, rfl, fun j y hy => ?_⟩⟩ rfl⟩
    · obtain ⟨i, hib⟩ := List.getElem?_of_mem hb
      exact (h2 i b hib).1
    · obtain ⟨b, _, rfl⟩ := List.mem_map.1 he
      exact hl b
    · have hun : ∀ ec ∈ l.map enc, ec.length = sz := fun ec he => by
        obtain ⟨b, _, rfl⟩ := List.mem_map.1 he
        exact hl b
      have hjl : j < l.length * sz := by
        have := (List.getElem?_eq_some_iff.1 hy).1
        rwa [flatten_len hun, List.length_map] at this
      have hsz : 0 < sz := by
        rcases Nat.eq_zero_or_pos sz with h0 | h0
        · subst h0; omega
        · exact h0
      have hij : j / sz < l.length := Nat.div_lt_of_lt_mul (by rw [Nat.mul_comm]; exact hjl)
      have hkm : j % sz < sz := Nat.mod_lt _ hsz
      have hjj : j / sz * sz + j % sz = j := by rw [Nat.mul_comm]; exact Nat.div_add_mod j sz
      have hb : l[j / sz]? = some l[j / sz] := List.getElem?_eq_getElem hij
      obtain ⟨_, cs', hcs, hd⟩ := h2 _ _ hb
      obtain ⟨_, hcl, hat⟩ := World.cells?_some hcs
      have hk : (enc l[j / sz])[j % sz]? = some ((enc l[j / sz])[j % sz]'(by rw [hl]; exact hkm)) := List.getElem?_eq_getElem _
      have hyk := flatten_get hun (i := j / sz) (e := enc l[j / sz]) (by rw [List.getElem?_map, hb]; rfl) hk
      rw [hjj, hy] at hyk
      injection hyk with hyk
      have hv : cs'[j % sz]? = some (cs'[j % sz]'(by rw [hcl]; exact hkm)) := List.getElem?_eq_getElem _
      have hcell := hat (j % sz) hkm
      rw [hv, add_add, hjj] at hcell
      refine ⟨_, rcell_heap hcell, ?_⟩
      have := hd.2 _ _ _ hv hk
      rw [hyk]; exact this
/-- The fields of a struct, from an offset on. -/
def OpensF (P : Program) (fs : List Field) (off : Nat) (α : Type) (enc : α → List AV) (ok : α → Prop) (total : Nat) : Prop :=
  ∀ (H : Type) (en : TypeId × Value → H) (w : World) (base : Nat) (spare : Nat → Bool) (held : Bool) (fuel : Nat) (cs : List Value), cs.length = total →
    (∀ f ∈ fs, ∃ x, DataW.trod en P w base spare held fuel f.type ((cs.drop f.offset).take (P.cellsOf f.type)) = some x) → ∃ a : α, ok a ∧ DenC (heapR w) (cs.drop off) (enc a)
theorem opensF_nil {total : Nat} : OpensF P [] total Unit (fun _ => []) (fun _ => True) total := fun H en w base spare held fuel cs hl _ =>
  ⟨(), trivial, by rw [List.drop_eq_nil_of_le (by omega)]; exact ⟨rfl, fun i v x h => by simp at h⟩⟩
theorem opensF_cons {α β : Type} {f : Field} {fs : List Field} {off m total : Nat} {enc : α → List AV} {enc' : β → List AV} {ok : α → Prop} {ok' : β → Prop} (h : Opens P f.type α enc ok) (ho : f.offset = off) (hm : P.cellsOf f.type = m)
    (k : OpensF P fs (off + m) β enc' ok' total) : OpensF P (f :: fs) off (α × β) (fun a => enc a.1 ++ enc' a.2) (fun a => ok a.1 ∧ ok' a.2) total := fun H en w base spare held fuel cs hl hf => by
  obtain ⟨x, hx⟩ := hf f (by simp)
  rw [ho, hm] at hx
  obtain ⟨a, h1, h2⟩ := h H en w base spare held fuel _ x hx
  obtain ⟨b, h3, h4⟩ := k H en w base spare held fuel cs hl fun g hg => hf g (by simp [hg])
  refine ⟨(a, b), ⟨h1, h3⟩, ?_⟩
  have := denC_append h2 h4
  rwa [← List.drop_drop, List.take_append_drop] at this
theorem opens_struct {α : Type} {fs : Array Field} {enc : α → List AV} {ok : α → Prop} {total : Nat} (ht : P.underlying t = some (.struct fs)) (hc : P.cellsOf t = total) (h : OpensF P fs.toList 0 α enc ok total) : Opens P t α enc ok := fun H en w base spare held fuel cs x hx => by
  obtain ⟨xs, n, _, _, hl, hxl, hf⟩ := DataW.trod_struct ht hx
  obtain ⟨a, h1, h2⟩ := h H en w base spare held n cs (by rw [hl, hc]) fun f hfm => by
    obtain ⟨i, hi⟩ := List.getElem?_of_mem hfm
    have hi' : fs[i]? = some f := by rw [← Array.getElem?_toList]; exact hi
    have hlt : i < xs.length := by
      have := (Array.getElem?_eq_some_iff.1 hi').1
      omega
    exact ⟨xs[i], (hf i f hi').trans (List.getElem?_eq_getElem hlt)⟩
  exact ⟨a, h1, by simpa using h2⟩
theorem opens_map {α β : Type} {enc : α → List AV} {enc' : β → List AV} {ok : α → Prop} {ok' : β → Prop} (f : α → β) (h : Opens P t α enc ok) (he : ∀ a, enc' (f a) = enc a) (ho : ∀ a, ok a → ok' (f a)) : Opens P t β enc' ok' := fun H en w base spare held fuel cs x hx => by
  obtain ⟨a, h1, h2⟩ := h H en w base spare held fuel cs x hx
  exact ⟨f a, ho a h1, by rw [he]; exact h2⟩
/-- An argument that is a struct. -/
theorem arg_agg {H : Type} {en : TypeId × Value → H} {W : World} {base b0 : Nat} {spare : Nat → Bool} {held : Bool} {r : Reach} {α : Type} {fs : Array Field} {enc : α → List AV} {ok : α → Prop} {v : Value} {d : DataW H} {p : List MemPlace}
    (h : Opens P t α enc ok) (ht : P.underlying t = some (.struct fs)) (hv : Value.okWide P W r b0 t v) (hd : DataW.Trod en P W base spare held t v d p) : ∃ a, ok a ∧ (AV.agg (enc a)).den (heapR W) v := by
  obtain ⟨cs, rfl, _⟩ := okWide_struct ht hv
  obtain ⟨fuel, hf⟩ := hd
  obtain ⟨a, h1, h2⟩ := h H en W base spare held fuel _ _ hf
  exact ⟨a, h1, cs.toList, rfl, h2⟩
/-- An argument of one cell. -/
theorem arg_one {H : Type} {en : TypeId × Value → H} {W : World} {base : Nat} {spare : Nat → Bool} {held : Bool} {α : Type} {enc : α → AV} {ok : α → Prop} {v : Value} {d : DataW H} {p : List MemPlace}
    (h : Opens P t α (fun a => [enc a]) ok) (h1 : v.cells = #[v]) (hd : DataW.Trod en P W base spare held t v d p) : ∃ a, ok a ∧ (enc a).den (heapR W) v := by
  obtain ⟨fuel, hf⟩ := hd
  rw [h1] at hf
  obtain ⟨a, h2, h3⟩ := h H en W base spare held fuel _ _ hf
  exact ⟨a, h2, (h3.2 0 v _ rfl rfl).1⟩
theorem law_calls {f : FuncId} {xs : List AV} {b : Bool} {W : World} {vs : List Value} (h : FSpec P f xs (AV.bool b)) (hd : DenV (heapR W) vs xs) :
    Calls P f vs.toArray W fun e w' => e = .returned (.bool b) ∧ Below W.heap.size W w' :=
  (h (heapR W) W vs (heapR_le W) hd).mono fun e w' ⟨v, R', h1, h2, _, _, h5⟩ => ⟨by rw [h1]; exact congrArg Ending.returned h2, h5⟩
end
end Go.AV
