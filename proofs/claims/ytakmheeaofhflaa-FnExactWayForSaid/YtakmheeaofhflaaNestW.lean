/- Walks: rows of aggregates, taken over, marked and held. -/
import Derived.Test.YtakmheeaofhflaaNestM
import Derived.Test.YtakmheeaofhflaaMarkW
set_option linter.unusedVariables false
set_option linter.unusedSimpArgs false
set_option maxRecDepth 100000
namespace Go.Proofs.Ytakmheeaofhflaa
open Go Go.AV Go.M
attribute [local irreducible] OpW OpA OpS AWP FSpec ESpec GSpec OpE RetOk RetOkG RvDen Le Ev GuardIs
theorem TPlaces.lcM {own : List Own} (p : TPlaces) (x : Value × Value) (h : ∀ o ∈ TPlaces.ow p x, o ∈ own) : LendC own (TPlaces.ocs p x) p.cs := lc_cons lt_refl (lc_cons (lt_arr (h _ (List.mem_of_getElem? (i := 0) rfl)) le_refl_e) (lc_cons (lt_arr (h _ (List.mem_of_getElem? (i := 1) rfl)) le_refl_e) lc_nil))
theorem toPlacesS_own (l : List TPlaces) (hs : sizeL TPlaces.size l ≤ 1048576) : GSpec Try.prog 115 [AV.list 3 (l.map TPlaces.cs)] [] (fun x : Value × List (Value × Value) => x.2.length = l.length) (fun x => .arr x.1 83 3 (nrows TPlaces.ocs l x.2) :: nin TPlaces.ow l x.2) (fun x => AV.is x.1) := by
  have hsl : l.length ≤ 1048576 := Nat.le_trans sizeL_len hs
  refine gspec_of_awp Try.func115 rfl Try.ntmps115 rfl ?_
  refine awp_seq ?_
  refine awp_region ?_
  refine sq_plain rfl rfl rfl (w_assign rfl ev_cnils) ?_
  refine sq_nil ?_
  refine awp_seq ?_
  refine awp_region ?_
  refine sq_plain rfl rfl rfl (w_move rfl (ev_tmp rfl)) ?_
  refine sq_plain rfl rfl rfl (w_llen rfl Try.underlying22 (ev_tmp rfl)) ?_
  refine sq_make (by' := 56) rfl rfl rfl rfl Try.underlying29 Try.type83 rfl rfl rfl rfl rfl rfl (ev_tmp rfl) (ev_tmp rfl) (by simp only [List.length_map]; omega) (by simp only [List.length_map]; omega) ?_
  intro v7
  refine sq_plain rfl rfl rfl (w_assign rfl (ev_tmp rfl)) ?_
  refine sq_nil ?_
  refine awp_seq ?_
  refine awp_seq ?_
  refine awp_region ?_
  refine sq_plain rfl rfl rfl (w_assign rfl ev_ci) ?_
  refine sq_nil ?_
  refine awp_block ?_
  refine awp_loop_i2 [(0, _), (2, _), (3, _)] [] (fun (i : Nat) (xs : List (Value × Value)) => i ≤ l.length ∧ xs.length = i) (fun (i : Nat) (xs : List (Value × Value)) => [.arr v7 83 3 (nrows TPlaces.ocs (l.take i) xs ++ List.replicate (l.length - i) [AV.int 0, AV.nils, AV.nils])] ++ (nin TPlaces.ow (l.take i) xs)) (fun (i : Nat) (xs : List (Value × Value)) => [(4, AV.int i)]) (fun (i : Nat) (xs : List (Value × Value)) => l.length - i) (0) ([]) ?_ (le_eq (by simp only [List.length_map]; rfl) ⟨rfl, rfl, rfl, rfl, trivial⟩) ?_
  · exact ⟨Nat.zero_le _, rfl⟩
  intro i xs hinv
  refine awp_own (List.append_nil _) ?_
  refine awp_seq ?_
  refine awp_seq ?_
  refine awp_region ?_
  refine sq_plain rfl rfl rfl (w_move rfl (ev_tmp rfl)) ?_
  refine sq_plain rfl rfl rfl (w_move rfl (ev_tmp rfl)) ?_
  refine sq_plain rfl rfl rfl (w_llen rfl Try.underlying22 (ev_tmp rfl)) ?_
  refine sq_plain rfl rfl rfl (w_lss rfl (ev_tmp rfl) (ev_tmp rfl)) ?_
  refine sq_nil ?_
  refine awp_cond (ev_tmp rfl) ?_ ?_
  · intro h11
    have k11 := of_decide_eq_true h11; try simp only [List.length_map] at k11
    have hlt : i < l.length := by omega
    obtain ⟨x, hx⟩ := get_some hlt
    have hsx : TPlaces.size x ≤ 1048576 := Nat.le_trans (sizeL_get hx) hs
    refine awp_skip ?_
    refine awp_seq ?_
    refine awp_block ?_
    refine awp_region ?_
    refine sq_plain rfl rfl rfl (w_move rfl (ev_tmp rfl)) ?_
    refine sq_plain rfl rfl rfl (w_move rfl (ev_tmp rfl)) ?_
    refine sq_plain rfl rfl rfl (w_move rfl (ev_tmp rfl)) ?_
    refine sq_plain rfl rfl rfl (w_move rfl (ev_tmp rfl)) ?_
    refine sq_plain rfl rfl rfl (w_idx rfl Try.underlying22 Try.sizeOf80 (ev_tmp rfl) (ev_tmp rfl) (by omega) (by simp only [Int.toNat_natCast, List.getElem?_map, hx, Option.map_some]; try rfl)) ?_
    refine sq_plain rfl rfl rfl (w_loadE rfl (ev_tmp rfl) Try.isAgg80 Try.sizeOf80) ?_
    refine sq_callG [] rfl rfl rfl rfl Try.call49 rfl (toPlaces_own _ (by assumption)) (evl_cons (ev_tmp rfl) evl_nil) rfl ?_
    intro x20 ok20
    refine sq_plain rfl rfl rfl (w_aidx 2 rfl Try.underlying29 Try.sizeOf83 (ev_tmp rfl) rfl (ev_tmp rfl) (by omega) (by rw [nfill_len hinv.1 hinv.2]; omega)) ?_
    refine sq_storeA 2 rfl rfl rfl (ev_tmp rfl) (ev_tmp rfl) (as_agg _) rfl Try.sizeOf83 rfl (by rw [nfill_len hinv.1 hinv.2]; omega) ?_
    refine sq_nil ?_
    refine AWP.le (le_pick [2, 0, 0] rfl) ?_
    refine AWP.le (le_tail 1 (t := nin TPlaces.ow (l.take (i + 1)) (xs ++ [x20])) (nin_step (ow := TPlaces.ow) (x := x20) hx hinv.2)) ?_
    refine awp_region ?_
    refine sq_plain rfl rfl rfl (w_move rfl (ev_tmp rfl)) ?_
    refine sq_plain rfl rfl rfl (w_addi rfl (ev_tmp rfl) ev_ci (by first | omega | ((try simp only [List.length_map, List.length_take, List.length_cons, List.length_nil, chunks_len, szR] at *); omega) | (have hc2 := hc; simp only [Bool.and_eq_true, Bool.or_eq_true, Bool.or_eq_false_iff, Bool.and_eq_false_iff, Bool.not_eq_true', Bool.not_eq_false', decide_eq_true_eq, decide_eq_false_iff_not, beq_iff_eq, bne_iff_ne, List.length_map, List.length_take] at hc2; omega))) ?_
    refine sq_plain rfl rfl rfl (w_assign rfl (ev_tmp rfl)) ?_
    refine sq_nil ?_
    refine round_end2 i xs (i + 1) (xs ++ [x20]) ?_ ?_ (le_eq (Eq.trans (by exact congrArg (fun z => Own.arr _ _ _ z :: _) (nfill_step hx hinv.2)) (List.append_nil _).symm) ⟨rfl, rfl, rfl, rfl, trivial⟩)
    · exact ⟨by omega, by rw [List.length_append, hinv.2]; rfl⟩
    · omega
  · intro h11
    have k11 := of_decide_eq_false h11; try simp only [List.length_map] at k11
    have hge : i = l.length := by omega
    have hxs := hinv.2.trans hge
    rw [show l.take i = l from List.take_of_length_le (by omega), show l.length - i = 0 by omega, List.replicate_zero, List.append_nil]
    refine awp_exit ?_
    refine awp_seq ?_
    refine awp_region ?_
    refine sq_plain rfl rfl rfl (w_move rfl (ev_tmp rfl)) ?_
    refine sq_plain rfl rfl rfl (w_assign rfl (ev_tmp rfl)) ?_
    refine sq_nil ?_
    refine awp_ret ?_
    exact retGT [0] 0 (nin TPlaces.ow l xs) [] (v7, xs) (hxs) rfl (show List.Perm (nin TPlaces.ow l xs) ((nin TPlaces.ow l xs) ++ []) from perm_nil) (by rfl) (resR rfl (rv_tmp' rfl (by first | rfl | (refine congrArg AV.bool ?_; simp_all; done))))
theorem markPlacesS_spec (v : Value) (l : List TPlaces) (xs : List (Value × Value)) (k : Int) (hl : xs.length = l.length) (h : 0 ≤ k ∧ countN TPlaces.markEN l k ≤ 4611686018427387904) : GSpec Try.prog 121 [AV.is v, AV.int k] (.arr v 83 3 (nrows TPlaces.ocs l xs) :: nin TPlaces.ow l xs) (fun _ : Unit => True) (fun _ => .arr v 83 3 (nrows TPlaces.ocs (marksN TPlaces.markE TPlaces.markEN l k) xs) :: nin TPlaces.ow (marksN TPlaces.markE TPlaces.markEN l k) xs) (fun _ => AV.int (countN TPlaces.markEN l k)) := by
  have hll := countN_len TPlaces.markEN_le1 l k
  refine gspec_of_awp Try.func121 rfl Try.ntmps121 rfl ?_
  refine awp_seq ?_
  refine awp_region ?_
  refine sq_plain rfl rfl rfl (w_assign rfl ev_ci) ?_
  refine sq_nil ?_
  refine awp_seq ?_
  refine awp_seq ?_
  refine awp_region ?_
  refine sq_plain rfl rfl rfl (w_assign rfl ev_ci) ?_
  refine sq_nil ?_
  refine awp_block ?_
  refine awp_loop_i2 [(0, _), (4, _)] [] (fun (i : Nat) (c : Int) => i ≤ l.length ∧ c = countN TPlaces.markEN (l.take i) k) (fun (i : Nat) (c : Int) => [.arr v 83 3 (nrows TPlaces.ocs (midN TPlaces.markE TPlaces.markEN l k i) xs)] ++ (nin TPlaces.ow (midN TPlaces.markE TPlaces.markEN l k i) xs)) (fun (i : Nat) (c : Int) => [(1, AV.int c), (5, AV.int i)]) (fun (i : Nat) (c : Int) => l.length - i) (0) (k) ?_ (le_eq (by rw [midN_zero, List.append_nil]; rfl) ⟨rfl, rfl, rfl, rfl, trivial⟩) ?_
  · exact ⟨Nat.zero_le _, rfl⟩
  intro i c hinv
  refine awp_own (List.append_nil _) ?_
  refine awp_seq ?_
  refine awp_seq ?_
  refine awp_region ?_
  refine sq_plain rfl rfl rfl (w_move rfl (ev_tmp rfl)) ?_
  refine sq_plain rfl rfl rfl (w_move rfl (ev_tmp rfl)) ?_
  refine sq_plain rfl rfl rfl (w_alen 0 rfl Try.underlying29 (ev_tmp rfl) rfl) ?_
  refine sq_plain rfl rfl rfl (w_lss rfl (ev_tmp rfl) (ev_tmp rfl)) ?_
  refine sq_nil ?_
  refine awp_cond (ev_tmp rfl) ?_ ?_
  · intro h9
    have k9 := of_decide_eq_true h9; try simp only [List.length_map] at k9
    simp only [nrows_len (hl.trans (midN_len hinv.1).symm), midN_len hinv.1] at k9
    have hlt : i < l.length := by omega
    obtain ⟨p0, hq⟩ := get_some hlt
    have hp := midN_get (mk := TPlaces.markE) (mn := TPlaces.markEN) (k := k) hq
    obtain ⟨x, hx⟩ := get_some (show i < xs.length by omega)
    have hstep := midN_step (mk := TPlaces.markE) (mn := TPlaces.markEN) (k := k) hq
    rw [← hinv.2] at hstep
    have hct := countN_take TPlaces.markEN_le l (i + 1) k
    have hc0 := countN_take TPlaces.markEN_le l i k
    rw [countN_snoc hq, ← hinv.2] at hct
    rw [← hinv.2] at hc0
    have hce : TPlaces.markEN p0 c = c + 1 + 1 * p0.Cuts.length + 1 * p0.Groups.length := rfl
    rw [nrows_split hp hx]
    refine awp_skip ?_
    refine awp_seq ?_
    refine awp_block ?_
    refine awp_seq ?_
    refine AWP.le (le_tail 1 (t := (TPlaces.ow p0 x) ++ (nin TPlaces.ow ((midN TPlaces.markE TPlaces.markEN l k i).eraseIdx i) (xs.eraseIdx i))) (nin_get (ow := TPlaces.ow) hp hx)) ?_
    refine awp_region ?_
    refine sq_plain rfl rfl rfl (w_move rfl (ev_tmp rfl)) ?_
    refine sq_plain rfl rfl rfl (w_move rfl (ev_tmp rfl)) ?_
    refine sq_plain rfl rfl rfl (w_move rfl (ev_tmp rfl)) ?_
    refine sq_plain rfl rfl rfl (w_aidx 0 rfl Try.underlying29 Try.sizeOf83 (ev_tmp rfl) rfl (ev_tmp rfl) (by omega) (by rw [nrows_jlen hp hx (hl.trans (midN_len hinv.1).symm), midN_len hinv.1]; omega)) ?_
    refine sq_plain rfl rfl rfl (w_fldX 0 rfl Try.underlying83 rfl Try.sizeOf3 (ev_tmp rfl) rfl rfl (app_get (nrows_tlen hp hx))) ?_
    refine sq_storeXA 0 rfl rfl rfl (ev_tmp rfl) (ev_tmp rfl) (as_ik _ _) rfl Try.sizeOf3 (nrows_tlen hp hx) rfl ?_
    refine sq_nil ?_
    refine awp_seq ?_
    refine awp_region ?_
    refine sq_plain rfl rfl rfl (w_move rfl (ev_tmp rfl)) ?_
    refine sq_plain rfl rfl rfl (w_addi rfl (ev_tmp rfl) ev_ci (by first | omega | ((try simp only [List.length_map, List.length_take, List.length_cons, List.length_nil, chunks_len, szR] at *); omega) | (have hc2 := hc; simp only [Bool.and_eq_true, Bool.or_eq_true, Bool.or_eq_false_iff, Bool.and_eq_false_iff, Bool.not_eq_true', Bool.not_eq_false', decide_eq_true_eq, decide_eq_false_iff_not, beq_iff_eq, bne_iff_ne, List.length_map, List.length_take] at hc2; omega))) ?_
    refine sq_plain rfl rfl rfl (w_assign rfl (ev_tmp rfl)) ?_
    refine sq_nil ?_
    refine awp_seq ?_
    refine awp_region ?_
    refine sq_plain rfl rfl rfl (w_move rfl (ev_tmp rfl)) ?_
    refine sq_plain rfl rfl rfl (w_move rfl (ev_tmp rfl)) ?_
    refine sq_plain rfl rfl rfl (w_aidx 0 rfl Try.underlying29 Try.sizeOf83 (ev_tmp rfl) rfl (ev_tmp rfl) (by omega) (by rw [nrows_jlen hp hx (hl.trans (midN_len hinv.1).symm), midN_len hinv.1]; omega)) ?_
    refine sq_plain rfl rfl rfl (w_fldX 0 rfl Try.underlying83 rfl Try.sizeOf78 (ev_tmp rfl) rfl rfl (app_get (nrows_tlen hp hx))) ?_
    refine sq_plain rfl rfl rfl (w_loadXf 0 rfl (ev_tmp rfl) rfl Try.isAgg78 (app_get (nrows_tlen hp hx)) rfl) ?_
    refine sq_plain rfl rfl rfl (w_move rfl (ev_tmp rfl)) ?_
    refine sq_callG [1] rfl rfl rfl rfl Try.call165 rfl (markStringS_spec _ _ _ (by first | assumption | first | omega | (refine ⟨by omega, ?_⟩; simp only [marks_len] at *; omega))) (evl_cons (ev_tmp rfl) (evl_cons (ev_tmp rfl) evl_nil)) rfl ?_
    intro x25 ok25
    refine sq_plain rfl rfl rfl (w_assign rfl (ev_tmp rfl)) ?_
    refine sq_nil ?_
    refine awp_region ?_
    refine sq_plain rfl rfl rfl (w_move rfl (ev_tmp rfl)) ?_
    refine sq_plain rfl rfl rfl (w_move rfl (ev_tmp rfl)) ?_
    refine sq_plain rfl rfl rfl (w_aidx 1 rfl Try.underlying29 Try.sizeOf83 (ev_tmp rfl) rfl (ev_tmp rfl) (by omega) (by rw [nrows_jlen hp hx (hl.trans (midN_len hinv.1).symm), midN_len hinv.1]; omega)) ?_
    refine sq_plain rfl rfl rfl (w_fldX 1 rfl Try.underlying83 rfl Try.sizeOf23 (ev_tmp rfl) rfl rfl (app_get (nrows_tlen hp hx))) ?_
    refine sq_plain rfl rfl rfl (w_loadXf 1 rfl (ev_tmp rfl) rfl Try.isAgg23 (app_get (nrows_tlen hp hx)) rfl) ?_
    refine sq_plain rfl rfl rfl (w_move rfl (ev_tmp rfl)) ?_
    refine sq_callG [2] rfl rfl rfl rfl Try.call22 rfl (markIntS_spec _ _ _ (by first | assumption | first | omega | (refine ⟨by omega, ?_⟩; simp only [marks_len] at *; omega))) (evl_cons (ev_tmp rfl) (evl_cons (ev_tmp rfl) evl_nil)) rfl ?_
    intro x32 ok32
    refine sq_plain rfl rfl rfl (w_assign rfl (ev_tmp rfl)) ?_
    refine sq_nil ?_
    refine AWP.le (le_pick [2, 1, 0] rfl) ?_
    refine AWP.le (le_tail 1 (t := nin TPlaces.ow (midN TPlaces.markE TPlaces.markEN l k (i + 1)) xs) ((hstep ▸ nin_set (ow := TPlaces.ow) (p' := TPlaces.markE p0 c) hp hx))) ?_
    refine awp_region ?_
    refine sq_plain rfl rfl rfl (w_move rfl (ev_tmp rfl)) ?_
    refine sq_plain rfl rfl rfl (w_addi rfl (ev_tmp rfl) ev_ci (by first | omega | ((try simp only [List.length_map, List.length_take, List.length_cons, List.length_nil, chunks_len, szR] at *); omega) | (have hc2 := hc; simp only [Bool.and_eq_true, Bool.or_eq_true, Bool.or_eq_false_iff, Bool.and_eq_false_iff, Bool.not_eq_true', Bool.not_eq_false', decide_eq_true_eq, decide_eq_false_iff_not, beq_iff_eq, bne_iff_ne, List.length_map, List.length_take] at hc2; omega))) ?_
    refine sq_plain rfl rfl rfl (w_assign rfl (ev_tmp rfl)) ?_
    refine sq_nil ?_
    refine round_end2 i c (i + 1) (TPlaces.markEN p0 c) ?_ ?_ (le_eq (Eq.trans (by exact congrArg (fun z => Own.arr _ _ _ z :: _) ((nrows_join hp hx).trans (congrArg (fun z => nrows TPlaces.ocs z xs) hstep))) (List.append_nil _).symm) ⟨rfl, rfl, rfl, rfl, trivial⟩)
    · exact ⟨by omega, by rw [countN_snoc hq, hinv.2]⟩
    · omega
  · intro h9
    have k9 := of_decide_eq_false h9; try simp only [List.length_map] at k9
    simp only [nrows_len (hl.trans (midN_len hinv.1).symm), midN_len hinv.1] at k9
    have hge : l.length ≤ i := by omega
    rw [midN_end hge]
    refine awp_exit ?_
    refine awp_seq ?_
    refine awp_region ?_
    refine sq_plain rfl rfl rfl (w_move rfl (ev_tmp rfl)) ?_
    refine sq_plain rfl rfl rfl (w_assign rfl (ev_tmp rfl)) ?_
    refine sq_nil ?_
    refine awp_ret ?_
    exact retGT [0] 0 (nin TPlaces.ow (marksN TPlaces.markE TPlaces.markEN l k) xs) [] () (trivial) rfl (show List.Perm (nin TPlaces.ow (marksN TPlaces.markE TPlaces.markEN l k) xs) ((nin TPlaces.ow (marksN TPlaces.markE TPlaces.markEN l k) xs) ++ []) from perm_nil) (by rfl) (resR rfl (rv_tmp' rfl (by exact congrArg AV.int (by rw [hinv.2, List.take_of_length_le hge]))))
theorem heldPlacesS_spec (l : List TPlaces) (k : Int) (h : 0 ≤ k ∧ countN TPlaces.markEN l k ≤ 4611686018427387904) : FSpec Try.prog 155 [AV.list 3 ((marksN TPlaces.markE TPlaces.markEN l k).map TPlaces.cs), AV.int k] (AV.int (countN TPlaces.markEN l k)) := by
  have hll := countN_len TPlaces.markEN_le1 l k
  refine spec_of_awp Try.func155 rfl Try.ntmps155 rfl ?_
  refine awp_seq ?_
  refine awp_region ?_
  refine sq_plain rfl rfl rfl (w_assign rfl ev_ci) ?_
  refine sq_nil ?_
  refine awp_seq ?_
  refine awp_seq ?_
  refine awp_region ?_
  refine sq_plain rfl rfl rfl (w_assign rfl ev_ci) ?_
  refine sq_nil ?_
  refine awp_block ?_
  refine awp_loop_i2 [(0, _)] _ (fun (i : Nat) (c : Int) => i ≤ l.length ∧ c = countN TPlaces.markEN (l.take i) k) (fun (i : Nat) (c : Int) => []) (fun (i : Nat) (c : Int) => [(1, AV.int c), (5, AV.int i)]) (fun (i : Nat) (c : Int) => l.length - i) (0) (k) ?_ (le_env ⟨rfl, rfl, rfl, trivial⟩) ?_
  · exact ⟨Nat.zero_le _, rfl⟩
  intro i c hinv
  refine awp_seq ?_
  refine awp_seq ?_
  refine awp_region ?_
  refine sq_plain rfl rfl rfl (w_move rfl (ev_tmp rfl)) ?_
  refine sq_plain rfl rfl rfl (w_move rfl (ev_tmp rfl)) ?_
  refine sq_plain rfl rfl rfl (w_llen rfl Try.underlying29 (ev_tmp rfl)) ?_
  refine sq_plain rfl rfl rfl (w_lss rfl (ev_tmp rfl) (ev_tmp rfl)) ?_
  refine sq_nil ?_
  refine awp_cond (ev_tmp rfl) ?_ ?_
  · intro h9
    have k9 := of_decide_eq_true h9; try simp only [List.length_map] at k9
    simp only [List.length_map, marksN_len] at k9
    have hlt : i < l.length := by omega
    obtain ⟨p0, hq⟩ := get_some hlt
    have hx := marksN_get (mk := TPlaces.markE) (mn := TPlaces.markEN) (k := k) hq
    rw [← hinv.2] at hx
    have hct := countN_take TPlaces.markEN_le l (i + 1) k
    have hc0 := countN_take TPlaces.markEN_le l i k
    rw [countN_snoc hq, ← hinv.2] at hct
    rw [← hinv.2] at hc0
    have hce : TPlaces.markEN p0 c = c + 1 + 1 * p0.Cuts.length + 1 * p0.Groups.length := rfl
    refine awp_skip ?_
    refine awp_seq ?_
    refine awp_block ?_
    refine awp_seq ?_
    refine awp_seq ?_
    refine awp_region ?_
    refine sq_plain rfl rfl rfl (w_move rfl (ev_tmp rfl)) ?_
    refine sq_plain rfl rfl rfl (w_move rfl (ev_tmp rfl)) ?_
    refine sq_plain rfl rfl rfl (w_idxm rfl Try.underlying29 Try.sizeOf83 (ev_tmp rfl) (ev_tmp rfl) hx (by first | omega | ((try simp only [List.length_map, List.length_take, List.length_cons, List.length_nil, chunks_len, szR] at *); omega) | (have hc2 := hc; simp only [Bool.and_eq_true, Bool.or_eq_true, Bool.or_eq_false_iff, Bool.and_eq_false_iff, Bool.not_eq_true', Bool.not_eq_false', decide_eq_true_eq, decide_eq_false_iff_not, beq_iff_eq, bne_iff_ne, List.length_map, List.length_take] at hc2; omega))) ?_
    refine sq_plain rfl rfl rfl (w_fldE rfl Try.underlying83 rfl Try.sizeOf3 (ev_tmp rfl) rfl) ?_
    refine sq_plain rfl rfl rfl (w_loadE1 rfl (ev_tmp rfl) Try.isAgg3 rfl) ?_
    refine sq_plain rfl rfl rfl (w_move rfl (ev_tmp rfl)) ?_
    refine sq_plain rfl rfl rfl (w_neq rfl (ev_tmp rfl) (ev_tmp rfl)) ?_
    refine sq_nil ?_
    refine awp_cond (ev_tmp rfl) ?_ ?_
    · intro h18
      have k18 := ne_of_bne h18; try simp only [List.length_map] at k18
      exfalso; revert h18; simp [TPlaces.markE]
    · intro h18
      have k18 := eq_of_bne_false h18; try simp only [List.length_map] at k18
      refine awp_skip ?_
      refine awp_seq ?_
      refine awp_region ?_
      refine sq_plain rfl rfl rfl (w_move rfl (ev_tmp rfl)) ?_
      refine sq_plain rfl rfl rfl (w_addi rfl (ev_tmp rfl) ev_ci (by first | omega | ((try simp only [List.length_map, List.length_take, List.length_cons, List.length_nil, chunks_len, szR] at *); omega) | (have hc2 := hc; simp only [Bool.and_eq_true, Bool.or_eq_true, Bool.or_eq_false_iff, Bool.and_eq_false_iff, Bool.not_eq_true', Bool.not_eq_false', decide_eq_true_eq, decide_eq_false_iff_not, beq_iff_eq, bne_iff_ne, List.length_map, List.length_take] at hc2; omega))) ?_
      refine sq_plain rfl rfl rfl (w_assign rfl (ev_tmp rfl)) ?_
      refine sq_nil ?_
      refine awp_seq ?_
      refine awp_region ?_
      refine sq_plain rfl rfl rfl (w_move rfl (ev_tmp rfl)) ?_
      refine sq_plain rfl rfl rfl (w_move rfl (ev_tmp rfl)) ?_
      refine sq_plain rfl rfl rfl (w_idxm rfl Try.underlying29 Try.sizeOf83 (ev_tmp rfl) (ev_tmp rfl) hx (by first | omega | ((try simp only [List.length_map, List.length_take, List.length_cons, List.length_nil, chunks_len, szR] at *); omega) | (have hc2 := hc; simp only [Bool.and_eq_true, Bool.or_eq_true, Bool.or_eq_false_iff, Bool.and_eq_false_iff, Bool.not_eq_true', Bool.not_eq_false', decide_eq_true_eq, decide_eq_false_iff_not, beq_iff_eq, bne_iff_ne, List.length_map, List.length_take] at hc2; omega))) ?_
      refine sq_plain rfl rfl rfl (w_fldE rfl Try.underlying83 rfl Try.sizeOf78 (ev_tmp rfl) rfl) ?_
      refine sq_plain rfl rfl rfl (w_loadE1 rfl (ev_tmp rfl) Try.isAgg78 rfl) ?_
      refine sq_plain rfl rfl rfl (w_move rfl (ev_tmp rfl)) ?_
      refine sq_plain rfl rfl rfl (w_call rfl Try.call243 rfl (heldStringS_spec p0.Cuts.length (c + 1) (by omega)) (evl_cons (ev_tmp rfl) (evl_cons (ev_tmp rfl) evl_nil))) ?_
      refine sq_plain rfl rfl rfl (w_assign rfl (ev_tmp rfl)) ?_
      refine sq_nil ?_
      refine awp_seq ?_
      refine awp_seq ?_
      refine awp_region ?_
      refine sq_plain rfl rfl rfl (w_move rfl (ev_tmp rfl)) ?_
      refine sq_plain rfl rfl rfl (w_lss rfl (ev_tmp rfl) ev_ci) ?_
      refine sq_nil ?_
      refine awp_cond (ev_tmp rfl) ?_ ?_
      · intro h29
        have k29 := of_decide_eq_true h29; try simp only [List.length_map] at k29
        exfalso; have := of_decide_eq_true h29; omega
      · intro h29
        have k29 := of_decide_eq_false h29; try simp only [List.length_map] at k29
        refine awp_skip ?_
        refine awp_seq ?_
        refine awp_region ?_
        refine sq_plain rfl rfl rfl (w_move rfl (ev_tmp rfl)) ?_
        refine sq_plain rfl rfl rfl (w_move rfl (ev_tmp rfl)) ?_
        refine sq_plain rfl rfl rfl (w_idxm rfl Try.underlying29 Try.sizeOf83 (ev_tmp rfl) (ev_tmp rfl) hx (by first | omega | ((try simp only [List.length_map, List.length_take, List.length_cons, List.length_nil, chunks_len, szR] at *); omega) | (have hc2 := hc; simp only [Bool.and_eq_true, Bool.or_eq_true, Bool.or_eq_false_iff, Bool.and_eq_false_iff, Bool.not_eq_true', Bool.not_eq_false', decide_eq_true_eq, decide_eq_false_iff_not, beq_iff_eq, bne_iff_ne, List.length_map, List.length_take] at hc2; omega))) ?_
        refine sq_plain rfl rfl rfl (w_fldE rfl Try.underlying83 rfl Try.sizeOf23 (ev_tmp rfl) rfl) ?_
        refine sq_plain rfl rfl rfl (w_loadE1 rfl (ev_tmp rfl) Try.isAgg23 rfl) ?_
        refine sq_plain rfl rfl rfl (w_move rfl (ev_tmp rfl)) ?_
        refine sq_plain rfl rfl rfl (w_call rfl Try.call23 rfl (heldIntS_spec p0.Groups.length (c + 1 + 1 * p0.Cuts.length) (by omega)) (evl_cons (ev_tmp rfl) (evl_cons (ev_tmp rfl) evl_nil))) ?_
        refine sq_plain rfl rfl rfl (w_assign rfl (ev_tmp rfl)) ?_
        refine sq_nil ?_
        refine awp_seq ?_
        refine awp_region ?_
        refine sq_plain rfl rfl rfl (w_move rfl (ev_tmp rfl)) ?_
        refine sq_plain rfl rfl rfl (w_lss rfl (ev_tmp rfl) ev_ci) ?_
        refine sq_nil ?_
        refine awp_cond (ev_tmp rfl) ?_ ?_
        · intro h38
          have k38 := of_decide_eq_true h38; try simp only [List.length_map] at k38
          exfalso; have := of_decide_eq_true h38; omega
        · intro h38
          have k38 := of_decide_eq_false h38; try simp only [List.length_map] at k38
          refine awp_skip ?_
          refine awp_region ?_
          refine sq_plain rfl rfl rfl (w_move rfl (ev_tmp rfl)) ?_
          refine sq_plain rfl rfl rfl (w_addi rfl (ev_tmp rfl) ev_ci (by first | omega | ((try simp only [List.length_map, List.length_take, List.length_cons, List.length_nil, chunks_len, szR] at *); omega) | (have hc2 := hc; simp only [Bool.and_eq_true, Bool.or_eq_true, Bool.or_eq_false_iff, Bool.and_eq_false_iff, Bool.not_eq_true', Bool.not_eq_false', decide_eq_true_eq, decide_eq_false_iff_not, beq_iff_eq, bne_iff_ne, List.length_map, List.length_take] at hc2; omega))) ?_
          refine sq_plain rfl rfl rfl (w_assign rfl (ev_tmp rfl)) ?_
          refine sq_nil ?_
          refine round_end2 i c (i + 1) (TPlaces.markEN p0 c) ?_ ?_ (le_env ⟨rfl, rfl, rfl, trivial⟩)
          · exact ⟨by omega, by rw [countN_snoc hq, hinv.2]⟩
          · omega
  · intro h9
    have k9 := of_decide_eq_false h9; try simp only [List.length_map] at k9
    simp only [List.length_map, marksN_len] at k9
    have hge : l.length ≤ i := by omega
    refine awp_exit ?_
    refine awp_seq ?_
    refine awp_region ?_
    refine sq_plain rfl rfl rfl (w_move rfl (ev_tmp rfl)) ?_
    refine sq_plain rfl rfl rfl (w_assign rfl (ev_tmp rfl)) ?_
    refine sq_nil ?_
    refine awp_ret ?_
    exact retR rfl (rv_tmp' rfl (by exact congrArg AV.int (by rw [hinv.2, List.take_of_length_le hge])))
def TAtlas.ow (a : TAtlas) (x : Value × Value × List (Value × Value)) : List Own := .arr x.1 83 3 (nrows TPlaces.ocs a.Maps x.2.2) :: .arr x.2.1 3 1 (a.Knows.map (fun x => [AV.int x])) :: nin TPlaces.ow a.Maps x.2.2
theorem TAtlas.lcM {own : List Own} (a : TAtlas) (x : Value × Value × List (Value × Value)) (hl : x.2.2.length = a.Maps.length) (h : ∀ o ∈ TAtlas.ow a x, o ∈ own) : LendC own (TAtlas.ocs a x) a.cs := by
  have h1 := h _ (List.mem_of_getElem? (i := 0) rfl)
  have h2 := h _ (List.mem_of_getElem? (i := 1) rfl)
  obtain ⟨i, hi⟩ := List.getElem?_of_mem h1
  exact lc_cons (nin_lend TPlaces.lcM hl i hi fun o ho => h o (List.mem_cons_of_mem _ (List.mem_cons_of_mem _ ho))) (lc_cons (lt_arr h2 le_refl_e) lc_nil)
theorem TPlaces.flatC (p : TPlaces) (x : Value × Value) : ∀ c ∈ TPlaces.ocs p x, Flat c := flatC_cons (flat_ik _ _) (flatC_cons (flat_is _) (flatC_cons (flat_is _) flatC_nil))
theorem TPlaces.flatW (p : TPlaces) (x : Value × Value) : ∀ q ∈ TPlaces.ow p x, FlatO q := flatO_cons (flatO_arr (flate_map fun s => flatC_cons (flat_str _) flatC_nil)) (flatO_cons (flatO_arr (flate_map fun s => flatC_cons (flat_ik _ _) flatC_nil)) flatO_nil)
theorem TAtlas.flatW (a : TAtlas) (x : Value × Value × List (Value × Value)) : ∀ q ∈ TAtlas.ow a x, FlatO q := flatO_cons (flatO_arr (nrows_flat TPlaces.flatC _ _)) (flatO_cons (flatO_arr (flate_map fun s => flatC_cons (flat_ik _ _) flatC_nil)) (nin_flat TPlaces.flatW _ _))
theorem TAtlas.flatV (a : TAtlas) (x : Value × Value × List (Value × Value)) (b : Bool) : Flat (AV.tup [AV.agg (TAtlas.ocs a x), AV.bool b]) := flat_tup (flatC_cons (flat_agg (flatC_cons (flat_is _) (flatC_cons (flat_is _) flatC_nil))) (flatC_cons (flat_bool _) flatC_nil))
theorem toAtlas_own (a : TAtlas) (hs : a.size ≤ 1048576) : GSpec Try.prog 17 [AV.agg a.cs] [] (fun x : Value × Value × List (Value × Value) => x.2.2.length = a.Maps.length) (fun x => TAtlas.ow a x) (fun x => AV.agg (TAtlas.ocs a x)) := by
  unfold TAtlas.size at hs
  refine gspec_of_awp Try.func17 rfl Try.ntmps17 rfl ?_
  refine awp_seq ?_
  refine awp_region ?_
  refine sq_box rfl rfl rfl rfl (ev_tmp rfl) ?_
  intro b1
  refine sq_alloc rfl rfl rfl rfl Try.zeroValue31 rfl ?_
  intro b2
  refine sq_nil ?_
  refine awp_seq ?_
  refine awp_region ?_
  refine sq_alloc rfl rfl rfl rfl Try.zeroValue31 rfl ?_
  intro b3
  refine sq_nil ?_
  refine awp_seq ?_
  refine awp_region ?_
  refine sq_plain rfl rfl rfl (w_fldBn 0 rfl Try.underlying25 rfl Try.sizeOf22 (ev_tmp rfl) rfl) ?_
  refine sq_plain rfl rfl rfl (w_loadB1 2 rfl (ev_tmp rfl) rfl Try.isAgg22 rfl) ?_
  refine sq_callGT [] 3 1 ([]) ([]) (fun zz => nin TPlaces.ow a.Maps zz.2) rfl rfl rfl rfl Try.call115 rfl rfl (show List.Perm ([]) (([]) ++ ([])) from List.Perm.refl _) (toPlacesS_own a.Maps (by omega)) (evl_cons (ev_tmp rfl) evl_nil) (fun a => perm_lin) ?_
  intro x6 ok6
  refine sq_plain rfl rfl rfl (w_fldBn 0 rfl Try.underlying31 rfl Try.sizeOf29 (ev_tmp rfl) rfl) ?_
  refine sq_fact 0 rfl fun one_x6_1 => ?_
  refine sq_storeB1 1 rfl rfl rfl (ev_tmp rfl) (ev_tmp rfl) (as_is one_x6_1) rfl Try.sizeOf29 rfl ?_
  refine sq_nil ?_
  refine awp_seq ?_
  refine awp_region ?_
  refine sq_plain rfl rfl rfl (w_fldBn 1 rfl Try.underlying25 rfl Try.sizeOf23 (ev_tmp rfl) rfl) ?_
  refine sq_plain rfl rfl rfl (w_loadB1 3 rfl (ev_tmp rfl) rfl Try.isAgg23 rfl) ?_
  refine sq_callG [] rfl rfl rfl rfl Try.call116 rfl (toIntS_own _ (by first | assumption | omega)) (evl_cons (ev_tmp rfl) evl_nil) rfl ?_
  intro x10 ok10
  refine sq_plain rfl rfl rfl (w_fldBn 1 rfl Try.underlying31 rfl Try.sizeOf23 (ev_tmp rfl) rfl) ?_
  refine sq_fact 0 rfl fun one_x10 => ?_
  refine sq_storeB1 2 rfl rfl rfl (ev_tmp rfl) (ev_tmp rfl) (as_is one_x10) rfl Try.sizeOf23 rfl ?_
  refine sq_nil ?_
  refine awp_seq ?_
  refine awp_region ?_
  refine sq_plain rfl rfl rfl (w_loadA 2 rfl (ev_tmp rfl) rfl Try.isAgg31 Try.sizeOf31 rfl) ?_
  refine sq_storeB0 3 rfl rfl rfl (ev_tmp rfl) (ev_tmp rfl) (as_agg _) rfl Try.sizeOf31 rfl ?_
  refine sq_nil ?_
  refine awp_ret ?_
  exact retGT [1, 0] 3 (nin TPlaces.ow a.Maps x6.2) [] (x6.1, x10, x6.2) (ok6) rfl (show List.Perm (nin TPlaces.ow a.Maps x6.2) ((nin TPlaces.ow a.Maps x6.2) ++ []) from perm_nil) (by rfl) (resR rfl (rv_cell (ys := _) 3 rfl rfl Try.isAgg31 Try.sizeOf31 rfl))
theorem markAtlas_spec (a : TAtlas) (x : Value × Value × List (Value × Value)) (k : Int) (hl : x.2.2.length = a.Maps.length) (h : 0 ≤ k ∧ a.markN k ≤ 4611686018427387904) : GSpec Try.prog 21 [AV.agg (TAtlas.ocs a x), AV.int k] (TAtlas.ow a x) (fun _ : Unit => True) (fun _ => TAtlas.ow (a.mark k) x) (fun _ => AV.int (a.markN k)) := by
  unfold TAtlas.markN at h
  have hk := countN_le TPlaces.markEN_le a.Maps k
  refine gspec_of_awp Try.func21 rfl Try.ntmps21 rfl ?_
  refine awp_seq ?_
  refine awp_region ?_
  refine sq_box rfl rfl rfl rfl (ev_tmp rfl) ?_
  intro b2
  refine sq_plain rfl rfl rfl (w_assign rfl ev_ci) ?_
  refine sq_nil ?_
  refine awp_seq ?_
  refine awp_region ?_
  refine sq_plain rfl rfl rfl (w_fldBn 0 rfl Try.underlying31 rfl Try.sizeOf29 (ev_tmp rfl) rfl) ?_
  refine sq_plain rfl rfl rfl (w_loadB1 0 rfl (ev_tmp rfl) rfl Try.isAgg29 rfl) ?_
  refine sq_plain rfl rfl rfl (w_move rfl (ev_tmp rfl)) ?_
  refine sq_callGT [1] 2 1 (nin TPlaces.ow a.Maps x.2.2) ([]) (fun zz => nin TPlaces.ow (marksN TPlaces.markE TPlaces.markEN a.Maps k) x.2.2) rfl rfl rfl rfl Try.call121 rfl rfl (show List.Perm (nin TPlaces.ow a.Maps x.2.2) ((nin TPlaces.ow a.Maps x.2.2) ++ ([])) from perm_nil) (markPlacesS_spec _ a.Maps x.2.2 k hl (by omega)) (evl_cons (ev_tmp rfl) (evl_cons (ev_tmp rfl) evl_nil)) (fun a => perm_lin) ?_
  intro x8 ok8
  refine sq_plain rfl rfl rfl (w_assign rfl (ev_tmp rfl)) ?_
  refine sq_nil ?_
  refine awp_seq ?_
  refine awp_region ?_
  refine sq_plain rfl rfl rfl (w_fldBn 1 rfl Try.underlying31 rfl Try.sizeOf23 (ev_tmp rfl) rfl) ?_
  refine sq_plain rfl rfl rfl (w_loadB1 1 rfl (ev_tmp rfl) rfl Try.isAgg23 rfl) ?_
  refine sq_plain rfl rfl rfl (w_move rfl (ev_tmp rfl)) ?_
  refine sq_callG [2] rfl rfl rfl rfl Try.call22 rfl (markIntS_spec _ _ _ (by first | assumption | first | omega | (refine ⟨by omega, ?_⟩; simp only [marks_len] at *; omega))) (evl_cons (ev_tmp rfl) (evl_cons (ev_tmp rfl) evl_nil)) rfl ?_
  intro x12 ok12
  refine sq_plain rfl rfl rfl (w_assign rfl (ev_tmp rfl)) ?_
  refine sq_nil ?_
  refine awp_seq ?_
  refine awp_region ?_
  refine sq_plain rfl rfl rfl (w_move rfl (ev_tmp rfl)) ?_
  refine sq_plain rfl rfl rfl (w_assign rfl (ev_tmp rfl)) ?_
  refine sq_nil ?_
  refine awp_ret ?_
  exact retGT [1, 0] 1 (nin TPlaces.ow (marksN TPlaces.markE TPlaces.markEN a.Maps k) x.2.2) [] () (trivial) rfl (show List.Perm (nin TPlaces.ow (marksN TPlaces.markE TPlaces.markEN a.Maps k) x.2.2) ((nin TPlaces.ow (marksN TPlaces.markE TPlaces.markEN a.Maps k) x.2.2) ++ []) from perm_nil) (by rfl) (resR rfl (rv_tmp' rfl (by rfl)))
theorem heldAtlas_spec (a : TAtlas) (k : Int) (h : 0 ≤ k ∧ a.markN k ≤ 4611686018427387904) : FSpec Try.prog 46 [AV.agg (a.mark k).cs, AV.int k] (AV.int (a.markN k)) := by
  unfold TAtlas.markN at h
  have hk := countN_le TPlaces.markEN_le a.Maps k
  refine spec_of_awp Try.func46 rfl Try.ntmps46 rfl ?_
  refine awp_seq ?_
  refine awp_region ?_
  refine sq_box rfl rfl rfl rfl (ev_tmp rfl) ?_
  intro b2
  refine sq_plain rfl rfl rfl (w_assign rfl ev_ci) ?_
  refine sq_nil ?_
  refine awp_seq ?_
  refine awp_region ?_
  refine sq_plain rfl rfl rfl (w_fldBn 0 rfl Try.underlying31 rfl Try.sizeOf29 (ev_tmp rfl) rfl) ?_
  refine sq_plain rfl rfl rfl (w_loadB1 0 rfl (ev_tmp rfl) rfl Try.isAgg29 rfl) ?_
  refine sq_plain rfl rfl rfl (w_move rfl (ev_tmp rfl)) ?_
  refine sq_plain rfl rfl rfl (w_call rfl Try.call155 rfl (heldPlacesS_spec a.Maps k (by omega)) (evl_cons (ev_tmp rfl) (evl_cons (ev_tmp rfl) evl_nil))) ?_
  refine sq_plain rfl rfl rfl (w_assign rfl (ev_tmp rfl)) ?_
  refine sq_nil ?_
  refine awp_seq ?_
  refine awp_seq ?_
  refine awp_region ?_
  refine sq_plain rfl rfl rfl (w_move rfl (ev_tmp rfl)) ?_
  refine sq_plain rfl rfl rfl (w_lss rfl (ev_tmp rfl) ev_ci) ?_
  refine sq_nil ?_
  refine awp_cond (ev_tmp rfl) ?_ ?_
  · intro h10
    have k10 := of_decide_eq_true h10; try simp only [List.length_map] at k10
    exfalso; have := of_decide_eq_true h10; omega
  · intro h10
    have k10 := of_decide_eq_false h10; try simp only [List.length_map] at k10
    refine awp_skip ?_
    refine awp_seq ?_
    refine awp_region ?_
    refine sq_plain rfl rfl rfl (w_fldBn 1 rfl Try.underlying31 rfl Try.sizeOf23 (ev_tmp rfl) rfl) ?_
    refine sq_plain rfl rfl rfl (w_loadB1 0 rfl (ev_tmp rfl) rfl Try.isAgg23 rfl) ?_
    refine sq_plain rfl rfl rfl (w_move rfl (ev_tmp rfl)) ?_
    refine sq_plain rfl rfl rfl (w_call rfl Try.call23 rfl (heldIntS_spec _ _ (by first | assumption | first | omega | (refine ⟨by omega, ?_⟩; simp only [marks_len] at *; omega))) (evl_cons (ev_tmp rfl) (evl_cons (ev_tmp rfl) evl_nil))) ?_
    refine sq_plain rfl rfl rfl (w_assign rfl (ev_tmp rfl)) ?_
    refine sq_nil ?_
    refine awp_seq ?_
    refine awp_seq ?_
    refine awp_region ?_
    refine sq_plain rfl rfl rfl (w_move rfl (ev_tmp rfl)) ?_
    refine sq_plain rfl rfl rfl (w_lss rfl (ev_tmp rfl) ev_ci) ?_
    refine sq_nil ?_
    refine awp_cond (ev_tmp rfl) ?_ ?_
    · intro h16
      have k16 := of_decide_eq_true h16; try simp only [List.length_map] at k16
      exfalso; have := of_decide_eq_true h16; omega
    · intro h16
      have k16 := of_decide_eq_false h16; try simp only [List.length_map] at k16
      refine awp_skip ?_
      refine awp_seq ?_
      refine awp_region ?_
      refine sq_plain rfl rfl rfl (w_move rfl (ev_tmp rfl)) ?_
      refine sq_plain rfl rfl rfl (w_assign rfl (ev_tmp rfl)) ?_
      refine sq_nil ?_
      refine awp_ret ?_
      exact retR rfl (rv_tmp' rfl (by rfl))
end Go.Proofs.Ytakmheeaofhflaa
