/- Walks: drawn locks. -/
import Derived.Test.YteliahajeokciaaDrawW
import Derived.Test.YteliahajeokciaaLock4W
import Derived.Test.YteliahajeokciaaCellM
set_option linter.unusedVariables false
set_option linter.unusedSimpArgs false
set_option maxRecDepth 100000
set_option maxHeartbeats 1000000
namespace Go.AV
/-- A slice of which only the length is told. -/
def AV.lenv (n : Nat) : AV := ⟨fun _ v => ∃ oa c, v = .slice oa n c, fun _ h => h⟩
theorem flat_lenv (n : Nat) : Flat (AV.lenv n) := fun _ _ _ h => h
theorem list_lenv {R : RHeap} {v : Value} {sz : Nat} {es : List (List AV)} (h : (AV.list sz es).den R v) : (AV.lenv es.length).den R v := by
  obtain ⟨oa, c, h1, _⟩ := h; exact ⟨oa, c, h1⟩
theorem fspec_lenv {P : Program} {f : FuncId} {xs : List AV} {sz : Nat} {es : List (List AV)} (h : FSpec P f xs (AV.list sz es)) : FSpec P f xs (AV.lenv es.length) := fun R w vs hr hd =>
  (h R w vs hr hd).mono fun e w' ⟨v, R', h1, h2, h3⟩ => ⟨v, R', h1, list_lenv h2, h3⟩
theorem w_lenv {P : Program} {G : Nat → Prop} {n : Nat} {own : List Own} {o : Oper} {E : EnvF} {p : Operand} {t e : TypeId} {k : Nat} (ho : o.op = .call { callee := .builtin .len, args := #[p], argTypes := #[t] }) (ht : P.underlying t = some (.slice e)) (hp : Ev E p (AV.lenv k)) : OpW P G n own o E (AV.int k) := opW_val fun R a w _ he => by
  obtain ⟨oa, c, h1⟩ := ev_use hp (by simp [ho, Op.operands, Call.operands]) he
  have hel : P.elem t = e := by simp [Program.elem, ht]
  have h2 := run_len_slice (P := P) w t o.type oa k c (by rw [hel]; exact ht)
  exact ⟨.int .i64 k, by simp only [execOp, ho, resolve, invoke, builtin, List.map_toArray, List.map_cons, List.map_nil, h1, h2, Sem.run_bind, Sem.run_pure, Result.andThen_ok, goInt], rfl⟩
end Go.AV
namespace Go.M
open Go.AV
theorem takeL_size (l : List TLock) (x : TLock) : sizeL TLock.size (takeL l x) ≤ sizeL TLock.size l + (TLock.size x + 1) := by
  induction l with
  | nil => simp [takeL, sizeL]; omega
  | cons y l ih =>
    unfold takeL
    split
    · rename_i h; simp only [sizeL, List.length_cons, List.map_cons, List.sum_cons, TLock.size]; omega
    · simp only [sizeL, List.length_cons, List.map_cons, List.sum_cons] at ih ⊢; omega
end Go.M
namespace Go.Proofs.Yteliahajeokciaa
open Go Go.AV Go.M
attribute [local irreducible] OpW OpA OpS AWP FSpec ESpec GSpec OpE RetOk RetOkG RvDen Le Ev GuardIs SrcIs Int.tmod IntKind.wrap bandI
theorem curLock_own (b : Nat) (code : List Int) (hcode : ByteL code) (c : TCur) (hp : c.p ≤ 6000000) : GSpec Try.prog 187 [AV.ptr b 0] [.box b 123 (curC code c)] (fun x : TCur × TLock => x.1.p ≤ c.p + 6 ∧ x.2.Key.length ≤ 64 ∧ 1 ≤ x.2.Txn ∧ x.2.Txn ≤ 5) (fun x => [.box b 123 (curC code x.1)]) (fun x => AV.agg x.2.cs) := by
  refine gspec_of_awp Try.func187 rfl Try.ntmps187 rfl ?_
  refine awp_seq ?_
  refine awp_region ?_
  refine sq_alloc rfl rfl rfl rfl Try.zeroValue96 rfl ?_
  intro b2
  refine sq_nil ?_
  refine awp_seq ?_
  refine awp_region ?_
  refine sq_plain rfl rfl rfl (w_move rfl (ev_tmp rfl)) ?_
  refine sq_plain rfl rfl rfl (w_bslice rfl Try.underlying29 Try.sizeOf9 Try.zeroValue9 rfl rfl rfl rfl (bp_cons (ev_cs' (l := [97]) rfl) (as_str _) (bp_cons (ev_cs' (l := [98]) rfl) (as_str _) (bp_cons (ev_cs' (l := [109]) rfl) (as_str _) bp_nil))) rfl rfl) ?_
  refine sq_callG [1] rfl rfl rfl rfl Try.call113 rfl (curOf_own _ _ hcode _ ([[97], [98], [109]] : List Str) (by decide) (by omega)) (evl_cons (ev_tmp rfl) (evl_cons (ev_tmp rfl) evl_nil)) rfl ?_
  intro x5 ok5
  refine sq_plain rfl rfl rfl (w_move rfl (ev_tmp rfl)) ?_
  refine sq_callG [0] rfl rfl rfl rfl Try.call131 rfl (curPick_own _ _ hcode _ _ (by omega) (by omega)) (evl_cons (ev_tmp rfl) (evl_cons ev_ci evl_nil)) rfl ?_
  intro x7 ok7
  refine sq_plain rfl rfl rfl (w_addi rfl ev_ci (ev_tmp rfl) (by first | omega | ((try simp only [List.length_map, List.length_take, List.length_cons, List.length_nil, chunks_len, szR] at *); omega) | (have hc2 := hc; simp only [Bool.and_eq_true, Bool.or_eq_true, Bool.or_eq_false_iff, Bool.and_eq_false_iff, Bool.not_eq_true', Bool.not_eq_false', decide_eq_true_eq, decide_eq_false_iff_not, beq_iff_eq, bne_iff_ne, List.length_map, List.length_take] at hc2; omega))) ?_
  refine sq_plain rfl rfl rfl (w_move rfl (ev_tmp rfl)) ?_
  refine sq_callG [0] rfl rfl rfl rfl Try.call170 rfl (curOne_own _ _ hcode _ _ (by omega) (by omega)) (evl_cons (ev_tmp rfl) (evl_cons ev_ci evl_nil)) rfl ?_
  intro x10 ok10
  refine sq_plain rfl rfl rfl (w_build (places := #[(0, 1), (1, 1), (2, 1)]) rfl Try.underlying96 Try.zeroValue96 (fun w => by kernel_rfl) rfl (bp_cons (ev_tmp rfl) (as_str _) (bp_cons (ev_tmp rfl) (as_ik _ _) (bp_cons (ev_tmp rfl) (as_bool _) bp_nil))) rfl) ?_
  refine sq_storeB0 1 rfl rfl rfl (ev_tmp rfl) (ev_tmp rfl) (as_agg _) rfl Try.sizeOf96 rfl ?_
  refine sq_nil ?_
  refine awp_ret ?_
  (refine retG [0] ((_, ⟨_, _, _⟩)) ?_ rfl (by first | (dsimp only; rfl) | rfl) (resR rfl (rv_cell (ys := _) 1 rfl rfl Try.isAgg96 Try.sizeOf96 rfl)); (dsimp only; exact ⟨by omega, ok5.2, by omega, by omega⟩))
theorem curLocks_own (b : Nat) (code : List Int) (hcode : ByteL code) (c : TCur) (hp : c.p ≤ 5000000) : GSpec Try.prog 251 [AV.ptr b 0] [.box b 123 (curC code c)] (fun x : TCur × List TLock × Value => x.1.p ≤ c.p + 50 ∧ sizeL TLock.size x.2.1 ≤ 460) (fun x => [.box b 123 (curC code x.1), .arr x.2.2 96 3 (x.2.1.map TLock.cs)]) (fun x => AV.is x.2.2) := by
  refine gspec_of_awp Try.func251 rfl Try.ntmps251 rfl ?_
  refine awp_seq ?_
  refine awp_region ?_
  refine sq_plain rfl rfl rfl (w_assign rfl ev_cnils) ?_
  refine sq_nil ?_
  refine awp_seq ?_
  refine awp_region ?_
  refine sq_nilarr 96 3 rfl rfl rfl rfl ev_cnils ?_
  intro v3
  refine sq_nil ?_
  refine awp_seq ?_
  refine awp_seq ?_
  refine awp_region ?_
  refine sq_plain rfl rfl rfl (w_move rfl (ev_tmp rfl)) ?_
  refine sq_callG [1] rfl rfl rfl rfl Try.call131 rfl (curPick_own _ _ hcode _ _ (by omega) (by omega)) (evl_cons (ev_tmp rfl) (evl_cons ev_ci evl_nil)) rfl ?_
  intro x7 ok7
  refine sq_plain rfl rfl rfl (w_assign rfl (ev_tmp rfl)) ?_
  refine sq_nil ?_
  refine awp_block ?_
  refine AWP.le (le_pick [0, 0] rfl) ?_
  refine awp_loop_i4 [(0, _), (2, _)] _ (fun (n : Int) (cc : TCur) (l : List TLock) (v : Value) => (0 ≤ n ∧ n ≤ 7) ∧ cc.p + 6 * n ≤ c.p + 48 ∧ sizeL TLock.size l + 65 * n ≤ 455) (fun (n : Int) (cc : TCur) (l : List TLock) (v : Value) => [.box b 123 (curC code cc), .arr v 96 3 (l.map TLock.cs)]) (fun (n : Int) (cc : TCur) (l : List TLock) (v : Value) => [(3, AV.is v), (4, AV.int n)]) (fun (n : Int) (cc : TCur) (l : List TLock) (v : Value) => n.toNat) (x7.2) (x7.1) ([]) (v3) ?_ (le_eq (by rfl) ⟨rfl, rfl, rfl, rfl, trivial⟩) ?_
  · exact ⟨by omega, by omega, by simp [sizeL]; omega⟩
  intro n cc l v hinv
  refine awp_seq ?_
  refine awp_seq ?_
  refine awp_region ?_
  refine sq_plain rfl rfl rfl (w_move rfl (ev_tmp rfl)) ?_
  refine sq_plain rfl rfl rfl (w_gtr rfl (ev_tmp rfl) ev_ci) ?_
  refine sq_nil ?_
  refine awp_cond (ev_tmp rfl) ?_ ?_
  · intro h9
    have k9 := of_decide_eq_true h9; try simp only [List.length_map] at k9
    have hll : l.length ≤ 455 := by have := sizeL_len (f := TLock.size) (l := l); omega
    refine awp_skip ?_
    refine awp_seq ?_
    refine awp_block ?_
    refine awp_seq ?_
    refine awp_region ?_
    refine sq_plain rfl rfl rfl (w_move rfl (ev_tmp rfl)) ?_
    refine sq_callG [0] rfl rfl rfl rfl Try.call187 rfl (curLock_own _ _ hcode _ (by omega)) (evl_cons (ev_tmp rfl) evl_nil) rfl ?_
    intro x13 ok13
    refine sq_alloc rfl rfl rfl rfl Try.zeroValue96 rfl ?_
    intro b5
    refine sq_storeB0 0 rfl rfl rfl (ev_tmp rfl) (ev_tmp rfl) (as_agg _) rfl Try.sizeOf96 rfl ?_
    refine sq_nil ?_
    refine awp_seq ?_
    refine awp_region ?_
    refine sq_plain rfl rfl rfl (w_move rfl (ev_tmp rfl)) ?_
    refine sq_plain rfl rfl rfl (w_loadA 0 rfl (ev_tmp rfl) rfl Try.isAgg96 Try.sizeOf96 rfl) ?_
    refine sq_plain rfl rfl rfl (w_callB rfl Try.call203 rfl (fspec_lenv (waitsS_spec l x13.2 (by omega))) (flat_lenv _) (evlb_cons (evb_arr 2 (ev_tmp rfl) rfl) (evlb_cons (evb (ev_tmp rfl)) evlb_nil))) ?_
    refine sq_plain rfl rfl rfl (w_lenv rfl Try.underlying94 (ev_tmp rfl)) ?_
    refine sq_plain rfl rfl rfl (w_eql rfl (ev_tmp rfl) ev_ci) ?_
    refine sq_nil ?_
    refine awp_cond (ev_tmp rfl) ?_ ?_
    · intro h18
      have k18 := eq_of_beqt h18; try simp only [List.length_map] at k18
      refine awp_region ?_
      refine sq_plain rfl rfl rfl (w_move rfl (ev_tmp rfl)) ?_
      refine sq_plain rfl rfl rfl (w_loadA 0 rfl (ev_tmp rfl) rfl Try.isAgg96 Try.sizeOf96 rfl) ?_
      refine sq_callGB [] rfl rfl rfl rfl Try.call204 rfl (l12Take_own l x13.2 (by omega)) rfl (evlb_cons (evb_arr 2 (ev_tmp rfl) rfl) (evlb_cons (evb (ev_tmp rfl)) evlb_nil)) (by first | exact flatO_nil | (intro _; exact flatO_nil) | (intro _; first | exact flat_is _ | exact flat_ik _ _ | exact flat_bool _ | exact flat_str _ | exact flat_nils) | (intro _; refine flat_tup ?_; (repeat (first | exact flatl_nil | (refine flatl_cons (by first | (first | exact flat_is _ | exact flat_ik _ _ | exact flat_bool _ | exact flat_str _ | exact flat_nils) | (refine flat_agg ?_; (repeat (first | exact flatl_nil | (refine flatl_cons (by first | exact flat_is _ | exact flat_ik _ _ | exact flat_bool _ | exact flat_str _ | exact flat_nils) ?_))))) ?_))); done) | (intro _; refine flat_agg ?_; (repeat (first | exact flatl_nil | (refine flatl_cons (by first | exact flat_is _ | exact flat_ik _ _ | exact flat_bool _ | exact flat_str _ | exact flat_nils) ?_))); done) | ((repeat (first | exact flatO_nil | (refine flatO_cons (flatO_box ?_) ?_; (repeat (first | exact flatl_nil | (refine flatl_cons (by first | exact flat_is _ | exact flat_ik _ _ | exact flat_bool _ | exact flat_str _ | exact flat_nils) ?_)))) | (refine flatO_cons (flatO_arr ?_) ?_; (repeat (first | exact flate_nil | (refine flate_map (fun _ => ?_); (first | exact TWrite.flat _ | exact TFeedItem.flat _ | exact TIdx.flat _ | exact TVer.flat _ | (repeat (first | exact flatl_nil | (refine flatl_cons (by first | exact flat_is _ | exact flat_ik _ _ | exact flat_bool _ | exact flat_str _ | exact flat_nils) ?_))))) | (refine flate_rep ?_; (first | exact TWrite.flat _ | exact TFeedItem.flat _ | exact TIdx.flat _ | exact TVer.flat _ | (repeat (first | exact flatl_nil | (refine flatl_cons (by first | exact flat_is _ | exact flat_ik _ _ | exact flat_bool _ | exact flat_str _ | exact flat_nils) ?_))))) | (refine flate_cons ?_ ?_; (first | exact TWrite.flat _ | exact TFeedItem.flat _ | exact TIdx.flat _ | exact TVer.flat _ | (repeat (first | exact flatl_nil | (refine flatl_cons (by first | exact flat_is _ | exact flat_ik _ _ | exact flat_bool _ | exact flat_str _ | exact flat_nils) ?_))))) | refine flate_app ?_ ?_))))); done) | (intro _; (repeat (first | exact flatO_nil | (refine flatO_cons (flatO_box ?_) ?_; (repeat (first | exact flatl_nil | (refine flatl_cons (by first | exact flat_is _ | exact flat_ik _ _ | exact flat_bool _ | exact flat_str _ | exact flat_nils) ?_)))) | (refine flatO_cons (flatO_arr ?_) ?_; (repeat (first | exact flate_nil | (refine flate_map (fun _ => ?_); (first | exact TWrite.flat _ | exact TFeedItem.flat _ | exact TIdx.flat _ | exact TVer.flat _ | (repeat (first | exact flatl_nil | (refine flatl_cons (by first | exact flat_is _ | exact flat_ik _ _ | exact flat_bool _ | exact flat_str _ | exact flat_nils) ?_))))) | (refine flate_rep ?_; (first | exact TWrite.flat _ | exact TFeedItem.flat _ | exact TIdx.flat _ | exact TVer.flat _ | (repeat (first | exact flatl_nil | (refine flatl_cons (by first | exact flat_is _ | exact flat_ik _ _ | exact flat_bool _ | exact flat_str _ | exact flat_nils) ?_))))) | (refine flate_cons ?_ ?_; (first | exact TWrite.flat _ | exact TFeedItem.flat _ | exact TIdx.flat _ | exact TVer.flat _ | (repeat (first | exact flatl_nil | (refine flatl_cons (by first | exact flat_is _ | exact flat_ik _ _ | exact flat_bool _ | exact flat_str _ | exact flat_nils) ?_))))) | refine flate_app ?_ ?_))))); done)) (by first | exact flatO_nil | (intro _; exact flatO_nil) | (intro _; first | exact flat_is _ | exact flat_ik _ _ | exact flat_bool _ | exact flat_str _ | exact flat_nils) | (intro _; refine flat_tup ?_; (repeat (first | exact flatl_nil | (refine flatl_cons (by first | (first | exact flat_is _ | exact flat_ik _ _ | exact flat_bool _ | exact flat_str _ | exact flat_nils) | (refine flat_agg ?_; (repeat (first | exact flatl_nil | (refine flatl_cons (by first | exact flat_is _ | exact flat_ik _ _ | exact flat_bool _ | exact flat_str _ | exact flat_nils) ?_))))) ?_))); done) | (intro _; refine flat_agg ?_; (repeat (first | exact flatl_nil | (refine flatl_cons (by first | exact flat_is _ | exact flat_ik _ _ | exact flat_bool _ | exact flat_str _ | exact flat_nils) ?_))); done) | ((repeat (first | exact flatO_nil | (refine flatO_cons (flatO_box ?_) ?_; (repeat (first | exact flatl_nil | (refine flatl_cons (by first | exact flat_is _ | exact flat_ik _ _ | exact flat_bool _ | exact flat_str _ | exact flat_nils) ?_)))) | (refine flatO_cons (flatO_arr ?_) ?_; (repeat (first | exact flate_nil | (refine flate_map (fun _ => ?_); (first | exact TWrite.flat _ | exact TFeedItem.flat _ | exact TIdx.flat _ | exact TVer.flat _ | (repeat (first | exact flatl_nil | (refine flatl_cons (by first | exact flat_is _ | exact flat_ik _ _ | exact flat_bool _ | exact flat_str _ | exact flat_nils) ?_))))) | (refine flate_rep ?_; (first | exact TWrite.flat _ | exact TFeedItem.flat _ | exact TIdx.flat _ | exact TVer.flat _ | (repeat (first | exact flatl_nil | (refine flatl_cons (by first | exact flat_is _ | exact flat_ik _ _ | exact flat_bool _ | exact flat_str _ | exact flat_nils) ?_))))) | (refine flate_cons ?_ ?_; (first | exact TWrite.flat _ | exact TFeedItem.flat _ | exact TIdx.flat _ | exact TVer.flat _ | (repeat (first | exact flatl_nil | (refine flatl_cons (by first | exact flat_is _ | exact flat_ik _ _ | exact flat_bool _ | exact flat_str _ | exact flat_nils) ?_))))) | refine flate_app ?_ ?_))))); done) | (intro _; (repeat (first | exact flatO_nil | (refine flatO_cons (flatO_box ?_) ?_; (repeat (first | exact flatl_nil | (refine flatl_cons (by first | exact flat_is _ | exact flat_ik _ _ | exact flat_bool _ | exact flat_str _ | exact flat_nils) ?_)))) | (refine flatO_cons (flatO_arr ?_) ?_; (repeat (first | exact flate_nil | (refine flate_map (fun _ => ?_); (first | exact TWrite.flat _ | exact TFeedItem.flat _ | exact TIdx.flat _ | exact TVer.flat _ | (repeat (first | exact flatl_nil | (refine flatl_cons (by first | exact flat_is _ | exact flat_ik _ _ | exact flat_bool _ | exact flat_str _ | exact flat_nils) ?_))))) | (refine flate_rep ?_; (first | exact TWrite.flat _ | exact TFeedItem.flat _ | exact TIdx.flat _ | exact TVer.flat _ | (repeat (first | exact flatl_nil | (refine flatl_cons (by first | exact flat_is _ | exact flat_ik _ _ | exact flat_bool _ | exact flat_str _ | exact flat_nils) ?_))))) | (refine flate_cons ?_ ?_; (first | exact TWrite.flat _ | exact TFeedItem.flat _ | exact TIdx.flat _ | exact TVer.flat _ | (repeat (first | exact flatl_nil | (refine flatl_cons (by first | exact flat_is _ | exact flat_ik _ _ | exact flat_bool _ | exact flat_str _ | exact flat_nils) ?_))))) | refine flate_app ?_ ?_))))); done)) (by first | exact flatO_nil | (intro _; exact flatO_nil) | (intro _; first | exact flat_is _ | exact flat_ik _ _ | exact flat_bool _ | exact flat_str _ | exact flat_nils) | (intro _; refine flat_tup ?_; (repeat (first | exact flatl_nil | (refine flatl_cons (by first | (first | exact flat_is _ | exact flat_ik _ _ | exact flat_bool _ | exact flat_str _ | exact flat_nils) | (refine flat_agg ?_; (repeat (first | exact flatl_nil | (refine flatl_cons (by first | exact flat_is _ | exact flat_ik _ _ | exact flat_bool _ | exact flat_str _ | exact flat_nils) ?_))))) ?_))); done) | (intro _; refine flat_agg ?_; (repeat (first | exact flatl_nil | (refine flatl_cons (by first | exact flat_is _ | exact flat_ik _ _ | exact flat_bool _ | exact flat_str _ | exact flat_nils) ?_))); done) | ((repeat (first | exact flatO_nil | (refine flatO_cons (flatO_box ?_) ?_; (repeat (first | exact flatl_nil | (refine flatl_cons (by first | exact flat_is _ | exact flat_ik _ _ | exact flat_bool _ | exact flat_str _ | exact flat_nils) ?_)))) | (refine flatO_cons (flatO_arr ?_) ?_; (repeat (first | exact flate_nil | (refine flate_map (fun _ => ?_); (first | exact TWrite.flat _ | exact TFeedItem.flat _ | exact TIdx.flat _ | exact TVer.flat _ | (repeat (first | exact flatl_nil | (refine flatl_cons (by first | exact flat_is _ | exact flat_ik _ _ | exact flat_bool _ | exact flat_str _ | exact flat_nils) ?_))))) | (refine flate_rep ?_; (first | exact TWrite.flat _ | exact TFeedItem.flat _ | exact TIdx.flat _ | exact TVer.flat _ | (repeat (first | exact flatl_nil | (refine flatl_cons (by first | exact flat_is _ | exact flat_ik _ _ | exact flat_bool _ | exact flat_str _ | exact flat_nils) ?_))))) | (refine flate_cons ?_ ?_; (first | exact TWrite.flat _ | exact TFeedItem.flat _ | exact TIdx.flat _ | exact TVer.flat _ | (repeat (first | exact flatl_nil | (refine flatl_cons (by first | exact flat_is _ | exact flat_ik _ _ | exact flat_bool _ | exact flat_str _ | exact flat_nils) ?_))))) | refine flate_app ?_ ?_))))); done) | (intro _; (repeat (first | exact flatO_nil | (refine flatO_cons (flatO_box ?_) ?_; (repeat (first | exact flatl_nil | (refine flatl_cons (by first | exact flat_is _ | exact flat_ik _ _ | exact flat_bool _ | exact flat_str _ | exact flat_nils) ?_)))) | (refine flatO_cons (flatO_arr ?_) ?_; (repeat (first | exact flate_nil | (refine flate_map (fun _ => ?_); (first | exact TWrite.flat _ | exact TFeedItem.flat _ | exact TIdx.flat _ | exact TVer.flat _ | (repeat (first | exact flatl_nil | (refine flatl_cons (by first | exact flat_is _ | exact flat_ik _ _ | exact flat_bool _ | exact flat_str _ | exact flat_nils) ?_))))) | (refine flate_rep ?_; (first | exact TWrite.flat _ | exact TFeedItem.flat _ | exact TIdx.flat _ | exact TVer.flat _ | (repeat (first | exact flatl_nil | (refine flatl_cons (by first | exact flat_is _ | exact flat_ik _ _ | exact flat_bool _ | exact flat_str _ | exact flat_nils) ?_))))) | (refine flate_cons ?_ ?_; (first | exact TWrite.flat _ | exact TFeedItem.flat _ | exact TIdx.flat _ | exact TVer.flat _ | (repeat (first | exact flatl_nil | (refine flatl_cons (by first | exact flat_is _ | exact flat_ik _ _ | exact flat_bool _ | exact flat_str _ | exact flat_nils) ?_))))) | refine flate_app ?_ ?_))))); done)) ?_
      intro x21 ok21
      refine sq_plain rfl rfl rfl (w_assign rfl (ev_tmp rfl)) ?_
      refine sq_nil ?_
      refine awp_region ?_
      refine sq_plain rfl rfl rfl (w_move rfl (ev_tmp rfl)) ?_
      refine sq_plain rfl rfl rfl (w_subi rfl (ev_tmp rfl) ev_ci (by first | omega | ((try simp only [List.length_map, List.length_take, List.length_cons, List.length_nil, chunks_len, szR] at *); omega) | (have hc2 := hc; simp only [Bool.and_eq_true, Bool.or_eq_true, Bool.or_eq_false_iff, Bool.and_eq_false_iff, Bool.not_eq_true', Bool.not_eq_false', decide_eq_true_eq, decide_eq_false_iff_not, beq_iff_eq, bne_iff_ne, List.length_map, List.length_take] at hc2; omega))) ?_
      refine sq_plain rfl rfl rfl (w_assign rfl (ev_tmp rfl)) ?_
      refine sq_nil ?_
      refine round_end4 n cc l v (n - 1) (x13.1) (takeL l x13.2) (x21) ?_ ?_ (Le.trans (le_pick [1, 2, 1, 0] rfl) (le_dropeq 2 (by rfl) ⟨rfl, rfl, rfl, rfl, trivial⟩))
      · exact ⟨by omega, by omega, by (have h9 := takeL_size l x13.2; have h8 : TLock.size x13.2 ≤ 64 := ok13.2.1; omega)⟩
      · omega
    · intro h18
      have k18 := ne_of_beqf h18; try simp only [List.length_map] at k18
      refine awp_skip ?_
      refine awp_region ?_
      refine sq_plain rfl rfl rfl (w_move rfl (ev_tmp rfl)) ?_
      refine sq_plain rfl rfl rfl (w_subi rfl (ev_tmp rfl) ev_ci (by first | omega | ((try simp only [List.length_map, List.length_take, List.length_cons, List.length_nil, chunks_len, szR] at *); omega) | (have hc2 := hc; simp only [Bool.and_eq_true, Bool.or_eq_true, Bool.or_eq_false_iff, Bool.and_eq_false_iff, Bool.not_eq_true', Bool.not_eq_false', decide_eq_true_eq, decide_eq_false_iff_not, beq_iff_eq, bne_iff_ne, List.length_map, List.length_take] at hc2; omega))) ?_
      refine sq_plain rfl rfl rfl (w_assign rfl (ev_tmp rfl)) ?_
      refine sq_nil ?_
      refine round_end4 n cc l v (n - 1) (x13.1) (l) (v) ?_ ?_ (Le.trans (le_pick [0, 0, 0] rfl) (le_dropeq 1 (by rfl) ⟨rfl, rfl, rfl, rfl, trivial⟩))
      · exact ⟨by omega, by omega, by omega⟩
      · omega
  · intro h9
    have k9 := of_decide_eq_false h9; try simp only [List.length_map] at k9
    refine awp_exit ?_
    refine awp_seq ?_
    refine awp_region ?_
    refine sq_plain rfl rfl rfl (w_move rfl (ev_tmp rfl)) ?_
    refine sq_plain rfl rfl rfl (w_assign rfl (ev_tmp rfl)) ?_
    refine sq_nil ?_
    refine awp_ret ?_
    (refine retG [0, 0] ((cc, l, v)) ?_ rfl (by first | (dsimp only; rfl) | rfl) (resR rfl (rv_tmp' rfl (by rfl))); exact ⟨show cc.p ≤ _ by omega, show sizeL TLock.size l ≤ _ by omega⟩)
theorem curAnyLocks_own (b : Nat) (code : List Int) (hcode : ByteL code) (c : TCur) (hp : c.p ≤ 4000000) : GSpec Try.prog 186 [AV.ptr b 0] [.box b 123 (curC code c)] (fun x : TCur × List TLock × Value => x.1.p ≤ c.p + 60 ∧ sizeL TLock.size x.2.1 ≤ 1000) (fun x => [.box b 123 (curC code x.1), .arr x.2.2 96 3 (x.2.1.map TLock.cs)]) (fun x => AV.is x.2.2) := by
  refine gspec_of_awp Try.func186 rfl Try.ntmps186 rfl ?_
  refine awp_seq ?_
  refine awp_region ?_
  refine sq_plain rfl rfl rfl (w_assign rfl ev_cnils) ?_
  refine sq_nil ?_
  refine awp_seq ?_
  refine awp_region ?_
  refine sq_plain rfl rfl rfl (w_move rfl (ev_tmp rfl)) ?_
  refine sq_callG [0] rfl rfl rfl rfl Try.call251 rfl (curLocks_own _ _ hcode _ (by omega)) (evl_cons (ev_tmp rfl) evl_nil) rfl ?_
  intro x5 ok5
  refine sq_plain rfl rfl rfl (w_assign rfl (ev_tmp rfl)) ?_
  refine sq_nil ?_
  refine awp_seq ?_
  refine awp_seq ?_
  refine awp_region ?_
  refine sq_plain rfl rfl rfl (w_move rfl (ev_tmp rfl)) ?_
  refine sq_plain rfl rfl rfl (w_alen 1 rfl Try.underlying93 (ev_tmp rfl) rfl) ?_
  refine sq_plain rfl rfl rfl (w_gtr rfl (ev_tmp rfl) ev_ci) ?_
  refine sq_nil ?_
  refine awp_cond (ev_tmp rfl) ?_ ?_
  · intro h8
    have k8 := of_decide_eq_true h8; try simp only [List.length_map] at k8
    obtain ⟨y, r, hyr⟩ : ∃ y r, x5.2.1 = y :: r := by (cases hl : x5.2.1 with | nil => (rw [hl] at k8; simp at k8) | cons y r => exact ⟨y, r, rfl⟩)
    have hsz := ok5.2
    rw [hyr, sizeL_cons] at hsz
    rw [hyr, List.map_cons, ← List.nil_append (TLock.cs y :: r.map TLock.cs)]
    have hrl : r.length ≤ 460 := by (have := sizeL_len (f := TLock.size) (l := r); omega)
    refine awp_seq ?_
    refine awp_region ?_
    refine sq_plain rfl rfl rfl (w_move rfl (ev_tmp rfl)) ?_
    refine sq_callG [0] rfl rfl rfl rfl Try.call131 rfl (curPick_own _ _ hcode _ _ (by omega) (by omega)) (evl_cons (ev_tmp rfl) (evl_cons ev_ci evl_nil)) rfl ?_
    intro x10 ok10
    refine sq_nil ?_
    refine awp_block ?_
    refine awp_seq ?_
    refine awp_region ?_
    refine sq_plain rfl rfl rfl (w_eql rfl (ev_tmp rfl) ev_ci) ?_
    refine sq_plain rfl rfl rfl (w_assign rfl (ev_tmp rfl)) ?_
    refine sq_nil ?_
    refine awp_cond (ev_tmp rfl) ?_ ?_
    · intro h11
      have k11 := eq_of_beqt h11; try simp only [List.length_map] at k11
      refine awp_region ?_
      refine sq_plain rfl rfl rfl (w_move rfl (ev_tmp rfl)) ?_
      refine sq_plain rfl rfl rfl (w_move rfl (ev_tmp rfl)) ?_
      refine sq_plain rfl rfl rfl (w_aidx 1 rfl Try.underlying93 Try.sizeOf96 (ev_tmp rfl) rfl ev_ci (by decide) (by rw [List.length_append, List.length_cons]; omega)) ?_
      refine sq_plain rfl rfl rfl (w_loadX 1 rfl (ev_tmp rfl) rfl Try.isAgg96 Try.sizeOf96 rfl (by decide)) ?_
      refine sq_plain rfl rfl rfl (w_bslice rfl Try.underlying93 Try.sizeOf96 Try.zeroValue96 rfl rfl rfl rfl (bp_cons (ev_tmp rfl) (as_agg _) bp_nil) rfl rfl) ?_
      refine sq_append (by' := 32) 1 rfl rfl rfl rfl Try.underlying93 Try.type96 rfl rfl rfl rfl rfl rfl (ev_tmp rfl) (ev_tmp rfl) rfl (by rw [List.length_append, List.length_cons, List.length_nil, List.length_map, chunks_len]; omega) ?_
      intro v18_1
      refine sq_plain rfl rfl rfl (w_assign rfl (ev_tmp rfl)) ?_
      refine sq_nil ?_
      refine awp_seq ?_
      refine awp_region ?_
      refine sq_plain rfl rfl rfl (w_move rfl (ev_tmp rfl)) ?_
      refine sq_plain rfl rfl rfl (w_assign rfl (ev_tmp rfl)) ?_
      refine sq_nil ?_
      refine awp_ret ?_
      (refine retG [0, 0] ((x10.1, (y :: r) ++ [y], v18_1)) ?_ rfl (by first | rfl | (dsimp only; rw [List.map_append]; rfl)) (resR rfl (rv_tmp' rfl (by rfl))); (dsimp only; first | exact ⟨by omega, by omega⟩ | exact ⟨by omega, by rw [sizeL_cons]; simp only [TLock.size] at hsz ⊢; omega⟩ | exact ⟨by omega, by rw [sizeL_append, sizeL_cons, sizeL_cons]; simp only [sizeL, List.length_nil, List.map_nil, List.sum_nil, TLock.size] at hsz ⊢; omega⟩))
    · intro h11
      have k11 := ne_of_beqf h11; try simp only [List.length_map] at k11
      refine awp_seq ?_
      refine awp_region ?_
      refine sq_plain rfl rfl rfl (w_eql rfl (ev_tmp rfl) ev_ci) ?_
      refine sq_plain rfl rfl rfl (w_assign rfl (ev_tmp rfl)) ?_
      refine sq_nil ?_
      refine awp_cond (ev_tmp rfl) ?_ ?_
      · intro h19
        have k19 := eq_of_beqt h19; try simp only [List.length_map] at k19
        refine awp_region ?_
        refine sq_plain rfl rfl rfl (w_move rfl (ev_tmp rfl)) ?_
        refine sq_plain rfl rfl rfl (w_move rfl (ev_tmp rfl)) ?_
        refine sq_plain rfl rfl rfl (w_bslice rfl Try.underlying94 Try.sizeOf3 Try.zeroValue3 rfl rfl rfl rfl (bp_cons ev_ci (as_ik _ _) (bp_cons ev_ci (as_ik _ _) (bp_cons ev_ci (as_ik _ _) bp_nil))) rfl rfl) ?_
        refine sq_callG [0] rfl rfl rfl rfl Try.call107 rfl (curAmong_own _ _ hcode _ ([(0), (60), (61)] : List Int) (by decide) (by omega)) (evl_cons (ev_tmp rfl) (evl_cons (ev_tmp rfl) evl_nil)) rfl ?_
        intro x24 ok24
        refine sq_plain rfl rfl rfl (w_aidx 1 rfl Try.underlying93 Try.sizeOf96 (ev_tmp rfl) rfl ev_ci (by decide) (by rw [List.length_append, List.length_cons]; omega)) ?_
        refine sq_plain rfl rfl rfl (w_fldX 1 rfl Try.underlying96 rfl Try.sizeOf3 (ev_tmp rfl) rfl rfl (app_get rfl)) ?_
        refine sq_storeXA 1 rfl rfl rfl (ev_tmp rfl) (ev_tmp rfl) (as_ik _ _) rfl Try.sizeOf3 rfl rfl ?_
        refine sq_nil ?_
        refine awp_seq ?_
        refine awp_region ?_
        refine sq_plain rfl rfl rfl (w_move rfl (ev_tmp rfl)) ?_
        refine sq_plain rfl rfl rfl (w_assign rfl (ev_tmp rfl)) ?_
        refine sq_nil ?_
        refine awp_ret ?_
        (refine retG [0, 0] ((x24.1, ⟨y.Key, x24.2, y.Write⟩ :: r, x5.2.2)) ?_ rfl (by first | rfl | (dsimp only; rw [List.map_append]; rfl)) (resR rfl (rv_tmp' rfl (by rfl))); (dsimp only; first | exact ⟨by omega, by omega⟩ | exact ⟨by omega, by rw [sizeL_cons]; simp only [TLock.size] at hsz ⊢; omega⟩ | exact ⟨by omega, by rw [sizeL_append, sizeL_cons, sizeL_cons]; simp only [sizeL, List.length_nil, List.map_nil, List.sum_nil, TLock.size] at hsz ⊢; omega⟩))
      · intro h19
        have k19 := ne_of_beqf h19; try simp only [List.length_map] at k19
        refine awp_seq ?_
        refine awp_region ?_
        refine sq_plain rfl rfl rfl (w_eql rfl (ev_tmp rfl) ev_ci) ?_
        refine sq_plain rfl rfl rfl (w_assign rfl (ev_tmp rfl)) ?_
        refine sq_nil ?_
        refine awp_cond (ev_tmp rfl) ?_ ?_
        · intro h27
          have k27 := eq_of_beqt h27; try simp only [List.length_map] at k27
          refine awp_region ?_
          refine sq_plain rfl rfl rfl (w_move rfl (ev_tmp rfl)) ?_
          refine sq_plain rfl rfl rfl (w_move rfl (ev_tmp rfl)) ?_
          refine sq_plain rfl rfl rfl (w_aidx 1 rfl Try.underlying93 Try.sizeOf96 (ev_tmp rfl) rfl ev_ci (by decide) (by rw [List.length_append, List.length_cons]; omega)) ?_
          refine sq_plain rfl rfl rfl (w_fldX 1 rfl Try.underlying96 rfl Try.sizeOf4 (ev_tmp rfl) rfl rfl (app_get rfl)) ?_
          refine sq_plain rfl rfl rfl (w_loadXf 1 rfl (ev_tmp rfl) rfl Try.isAgg4 (app_get rfl) rfl) ?_
          refine sq_plain rfl rfl rfl (w_not rfl (ev_tmp rfl)) ?_
          refine sq_plain rfl rfl rfl (w_aidx 1 rfl Try.underlying93 Try.sizeOf96 (ev_tmp rfl) rfl ev_ci (by decide) (by rw [List.length_append, List.length_cons]; omega)) ?_
          refine sq_plain rfl rfl rfl (w_fldX 1 rfl Try.underlying96 rfl Try.sizeOf4 (ev_tmp rfl) rfl rfl (app_get rfl)) ?_
          refine sq_storeXA 1 rfl rfl rfl (ev_tmp rfl) (ev_tmp rfl) (as_bool _) rfl Try.sizeOf4 rfl rfl ?_
          refine sq_nil ?_
          refine awp_seq ?_
          refine awp_region ?_
          refine sq_plain rfl rfl rfl (w_move rfl (ev_tmp rfl)) ?_
          refine sq_plain rfl rfl rfl (w_assign rfl (ev_tmp rfl)) ?_
          refine sq_nil ?_
          refine awp_ret ?_
          (refine retG [0, 0] ((x10.1, ⟨y.Key, y.Txn, !y.Write⟩ :: r, x5.2.2)) ?_ rfl (by first | rfl | (dsimp only; rw [List.map_append]; rfl)) (resR rfl (rv_tmp' rfl (by rfl))); (dsimp only; first | exact ⟨by omega, by omega⟩ | exact ⟨by omega, by rw [sizeL_cons]; simp only [TLock.size] at hsz ⊢; omega⟩ | exact ⟨by omega, by rw [sizeL_append, sizeL_cons, sizeL_cons]; simp only [sizeL, List.length_nil, List.map_nil, List.sum_nil, TLock.size] at hsz ⊢; omega⟩))
        · intro h27
          have k27 := ne_of_beqf h27; try simp only [List.length_map] at k27
          refine awp_skip ?_
          refine awp_seq ?_
          refine awp_region ?_
          refine sq_plain rfl rfl rfl (w_move rfl (ev_tmp rfl)) ?_
          refine sq_plain rfl rfl rfl (w_assign rfl (ev_tmp rfl)) ?_
          refine sq_nil ?_
          refine awp_ret ?_
          (refine retG [0, 0] ((x10.1, y :: r, x5.2.2)) ?_ rfl (by first | rfl | (dsimp only; rw [List.map_append]; rfl)) (resR rfl (rv_tmp' rfl (by rfl))); (dsimp only; first | exact ⟨by omega, by omega⟩ | exact ⟨by omega, by rw [sizeL_cons]; simp only [TLock.size] at hsz ⊢; omega⟩ | exact ⟨by omega, by rw [sizeL_append, sizeL_cons, sizeL_cons]; simp only [sizeL, List.length_nil, List.map_nil, List.sum_nil, TLock.size] at hsz ⊢; omega⟩))
  · intro h8
    have k8 := of_decide_eq_false h8; try simp only [List.length_map] at k8
    refine awp_skip ?_
    refine awp_seq ?_
    refine awp_region ?_
    refine sq_plain rfl rfl rfl (w_move rfl (ev_tmp rfl)) ?_
    refine sq_plain rfl rfl rfl (w_assign rfl (ev_tmp rfl)) ?_
    refine sq_nil ?_
    refine awp_ret ?_
    (refine retG [0, 0] ((x5.1, x5.2.1, x5.2.2)) ?_ rfl (by first | rfl | (dsimp only; rw [List.map_append]; rfl)) (resR rfl (rv_tmp' rfl (by rfl))); (dsimp only; first | exact ⟨by omega, by omega⟩ | exact ⟨by omega, by rw [sizeL_cons]; simp only [TLock.size] at hsz ⊢; omega⟩ | exact ⟨by omega, by rw [sizeL_append, sizeL_cons, sizeL_cons]; simp only [sizeL, List.length_nil, List.map_nil, List.sum_nil, TLock.size] at hsz ⊢; omega⟩))
theorem drawFreeLocks_own (code : List Int) (hcode : ByteL code) : GSpec Try.prog 96 [bytesI code] [] (fun x : List TLock × Int × Value => sizeL TLock.size x.1 ≤ 1000 ∧ 0 ≤ x.2.1 ∧ x.2.1 ≤ 7) (fun x => [.arr x.2.2 96 3 (x.1.map TLock.cs)]) (fun x => AV.tup [AV.is x.2.2, AV.int x.2.1]) := by
  refine gspec_of_awp Try.func96 rfl Try.ntmps96 rfl ?_
  refine awp_seq ?_
  refine awp_region ?_
  refine sq_plain rfl rfl rfl (w_assign rfl ev_cnils) ?_
  refine sq_plain rfl rfl rfl (w_assign rfl ev_ci) ?_
  refine sq_nil ?_
  refine awp_seq ?_
  refine awp_region ?_
  refine sq_plain rfl rfl rfl (w_move rfl (ev_tmp rfl)) ?_
  refine sq_plain rfl rfl rfl (w_build (places := #[(0, 1), (1, 1), (2, 1)]) rfl Try.underlying123 Try.zeroValue123 (fun w => by kernel_rfl) rfl (bp_cons (ev_tmp rfl) (as_list _ _) bp_nil) rfl) ?_
  refine sq_box rfl rfl rfl rfl (ev_tmp rfl) ?_
  intro b7
  refine sq_plain rfl rfl rfl (w_assign rfl (ev_tmp rfl)) ?_
  refine sq_nil ?_
  refine awp_seq ?_
  refine awp_region ?_
  refine sq_plain rfl rfl rfl (w_move rfl (ev_tmp rfl)) ?_
  refine sq_callG [0] rfl rfl rfl rfl Try.call186 rfl (curAnyLocks_own _ _ hcode ⟨0, 0⟩ (by decide)) (evl_cons (ev_tmp rfl) evl_nil) rfl ?_
  intro x9 ok9
  have hp9 : x9.1.p ≤ 60 := ok9.1
  refine sq_plain rfl rfl rfl (w_move rfl (ev_tmp rfl)) ?_
  refine sq_callG [0] rfl rfl rfl rfl Try.call131 rfl (curPick_own _ _ hcode _ _ (by omega) (by omega)) (evl_cons (ev_tmp rfl) (evl_cons ev_ci evl_nil)) rfl ?_
  intro x11 ok11
  refine sq_plain rfl rfl rfl (w_assign rfl (ev_tmp rfl)) ?_
  refine sq_plain rfl rfl rfl (w_assign rfl (ev_tmp rfl)) ?_
  refine sq_nil ?_
  refine awp_ret ?_
  (refine retG [1] ((x9.2.1, x11.2, x9.2.2)) ?_ rfl (by first | (dsimp only; rfl) | rfl) (resN rfl (by decide) (rv_cons (rv_tmp' rfl (by rfl)) (rv_cons (rv_tmp' rfl (by rfl)) rv_nil))); (dsimp only; exact ⟨ok9.2, by omega, by omega⟩))
theorem drawTakeLock_own (code : List Int) (hcode : ByteL code) : GSpec Try.prog 94 [bytesI code] [] (fun x : List TLock × TLock × Value => sizeL TLock.size x.1 ≤ 1000 ∧ x.2.1.Key.length ≤ 64) (fun x => [.arr x.2.2 96 3 (x.1.map TLock.cs)]) (fun x => AV.tup [AV.is x.2.2, AV.agg x.2.1.cs]) := by
  refine gspec_of_awp Try.func94 rfl Try.ntmps94 rfl ?_
  refine awp_seq ?_
  refine awp_region ?_
  refine sq_plain rfl rfl rfl (w_assign rfl ev_cnils) ?_
  refine sq_alloc rfl rfl rfl rfl Try.zeroValue96 rfl ?_
  intro b3
  refine sq_nil ?_
  refine awp_seq ?_
  refine awp_region ?_
  refine sq_plain rfl rfl rfl (w_move rfl (ev_tmp rfl)) ?_
  refine sq_plain rfl rfl rfl (w_build (places := #[(0, 1), (1, 1), (2, 1)]) rfl Try.underlying123 Try.zeroValue123 (fun w => by kernel_rfl) rfl (bp_cons (ev_tmp rfl) (as_list _ _) bp_nil) rfl) ?_
  refine sq_box rfl rfl rfl rfl (ev_tmp rfl) ?_
  intro b7
  refine sq_plain rfl rfl rfl (w_assign rfl (ev_tmp rfl)) ?_
  refine sq_nil ?_
  refine awp_seq ?_
  refine awp_region ?_
  refine sq_plain rfl rfl rfl (w_move rfl (ev_tmp rfl)) ?_
  refine sq_callG [0] rfl rfl rfl rfl Try.call186 rfl (curAnyLocks_own _ _ hcode ⟨0, 0⟩ (by decide)) (evl_cons (ev_tmp rfl) evl_nil) rfl ?_
  intro x9 ok9
  have hp9 : x9.1.p ≤ 60 := ok9.1
  refine sq_plain rfl rfl rfl (w_move rfl (ev_tmp rfl)) ?_
  refine sq_callG [0] rfl rfl rfl rfl Try.call187 rfl (curLock_own _ _ hcode _ (by omega)) (evl_cons (ev_tmp rfl) evl_nil) rfl ?_
  intro x11 ok11
  refine sq_plain rfl rfl rfl (w_assign rfl (ev_tmp rfl)) ?_
  refine sq_storeB0 2 rfl rfl rfl (ev_tmp rfl) (ev_tmp rfl) (as_agg _) rfl Try.sizeOf96 rfl ?_
  refine sq_nil ?_
  refine awp_ret ?_
  (refine retG [1] ((x9.2.1, x11.2, x9.2.2)) ?_ rfl (by first | (dsimp only; rfl) | rfl) (resN rfl (by decide) (rv_cons (rv_tmp' rfl (by rfl)) (rv_cons (rv_cell (ys := _) 2 rfl rfl Try.isAgg96 Try.sizeOf96 rfl) rv_nil))); exact ⟨ok9.2, ok11.2.1⟩)
theorem drawAskLock_own (code : List Int) (hcode : ByteL code) : GSpec Try.prog 84 [bytesI code] [] (fun x : List TLock × List Int × TLock × Value => sizeL TLock.size x.1 ≤ 1000 ∧ x.2.1.length ≤ 1 ∧ x.2.2.1.Key.length ≤ 64) (fun x => [.arr x.2.2.2 96 3 (x.1.map TLock.cs)]) (fun x => AV.tup [AV.is x.2.2.2, ints x.2.1, AV.agg x.2.2.1.cs]) := by
  refine gspec_of_awp Try.func84 rfl Try.ntmps84 rfl ?_
  refine awp_seq ?_
  refine awp_region ?_
  refine sq_plain rfl rfl rfl (w_assign rfl ev_cnils) ?_
  refine sq_plain rfl rfl rfl (w_assign rfl ev_cnils) ?_
  refine sq_alloc rfl rfl rfl rfl Try.zeroValue96 rfl ?_
  intro b4
  refine sq_nil ?_
  refine awp_seq ?_
  refine awp_region ?_
  refine sq_plain rfl rfl rfl (w_move rfl (ev_tmp rfl)) ?_
  refine sq_plain rfl rfl rfl (w_build (places := #[(0, 1), (1, 1), (2, 1)]) rfl Try.underlying123 Try.zeroValue123 (fun w => by kernel_rfl) rfl (bp_cons (ev_tmp rfl) (as_list _ _) bp_nil) rfl) ?_
  refine sq_box rfl rfl rfl rfl (ev_tmp rfl) ?_
  intro b9
  refine sq_plain rfl rfl rfl (w_assign rfl (ev_tmp rfl)) ?_
  refine sq_nil ?_
  refine awp_seq ?_
  refine awp_region ?_
  refine sq_plain rfl rfl rfl ((by first | exact w_assign rfl (ev_tmp rfl) | exact w_assign rfl (ev_cnil (sz := 1)))) ?_
  refine sq_nil ?_
  refine awp_seq ?_
  refine awp_seq ?_
  refine awp_region ?_
  refine sq_plain rfl rfl rfl (w_move rfl (ev_tmp rfl)) ?_
  refine sq_callG [0] rfl rfl rfl rfl Try.call170 rfl (curOne_own _ _ hcode ⟨0, 0⟩ _ (by decide) (by decide)) (evl_cons (ev_tmp rfl) (evl_cons ev_ci evl_nil)) rfl ?_
  intro x11 ok11
  have hp11 : x11.1.p ≤ 2 := ok11
  refine sq_nil ?_
  refine awp_cond (ev_tmp rfl) ?_ ?_
  · intro h11
    refine awp_region ?_
    refine sq_plain rfl rfl rfl (w_move rfl (ev_tmp rfl)) ?_
    refine sq_callG [0] rfl rfl rfl rfl Try.call131 rfl (curPick_own _ _ hcode _ _ (by omega) (by omega)) (evl_cons (ev_tmp rfl) (evl_cons ev_ci evl_nil)) rfl ?_
    intro x13 ok13
    refine sq_plain rfl rfl rfl (w_addi rfl ev_ci (ev_tmp rfl) (by first | omega | ((try simp only [List.length_map, List.length_take, List.length_cons, List.length_nil, chunks_len, szR] at *); omega) | (have hc2 := hc; simp only [Bool.and_eq_true, Bool.or_eq_true, Bool.or_eq_false_iff, Bool.and_eq_false_iff, Bool.not_eq_true', Bool.not_eq_false', decide_eq_true_eq, decide_eq_false_iff_not, beq_iff_eq, bne_iff_ne, List.length_map, List.length_take] at hc2; omega))) ?_
    refine sq_plain rfl rfl rfl (w_bslice rfl Try.underlying94 Try.sizeOf3 Try.zeroValue3 rfl rfl rfl rfl (bp_cons (ev_tmp rfl) (as_ik _ _) bp_nil) rfl rfl) ?_
    refine sq_plain rfl rfl rfl ((by first | exact w_assign rfl (ev_tmp rfl) | exact w_assign rfl (ev_cnil (sz := 1)))) ?_
    refine sq_nil ?_
    refine awp_seq ?_
    refine awp_region ?_
    refine sq_plain rfl rfl rfl (w_move rfl (ev_tmp rfl)) ?_
    refine sq_callG [0] rfl rfl rfl rfl Try.call186 rfl (curAnyLocks_own _ _ hcode _ (by omega)) (evl_cons (ev_tmp rfl) evl_nil) rfl ?_
    intro x17 ok17
    have hp17 := ok17.1
    refine sq_plain rfl rfl rfl (w_move rfl (ev_tmp rfl)) ?_
    refine sq_plain rfl rfl rfl (w_move rfl (ev_tmp rfl)) ?_
    refine sq_callG [0] rfl rfl rfl rfl Try.call187 rfl (curLock_own _ _ hcode _ (by omega)) (evl_cons (ev_tmp rfl) evl_nil) rfl ?_
    intro x20 ok20
    refine sq_plain rfl rfl rfl (w_assign rfl (ev_tmp rfl)) ?_
    refine sq_plain rfl rfl rfl (w_assign rfl (ev_tmp rfl)) ?_
    refine sq_storeB0 2 rfl rfl rfl (ev_tmp rfl) (ev_tmp rfl) (as_agg _) rfl Try.sizeOf96 rfl ?_
    refine sq_nil ?_
    refine awp_ret ?_
    (refine retG [1] ((x17.2.1, [1 + x13.2], x20.2, x17.2.2)) ?_ rfl (by first | (dsimp only; rfl) | rfl) (resN rfl (by decide) (rv_cons (rv_tmp' rfl (by rfl)) (rv_cons (rv_tmp' rfl (by rfl)) (rv_cons (rv_cell (ys := _) 2 rfl rfl Try.isAgg96 Try.sizeOf96 rfl) rv_nil)))); exact ⟨ok17.2, by first | exact Nat.zero_le _ | exact Nat.le_refl _, ok20.2.1⟩)
  · intro h11
    refine awp_skip ?_
    refine awp_seq ?_
    refine awp_region ?_
    refine sq_plain rfl rfl rfl (w_move rfl (ev_tmp rfl)) ?_
    refine sq_callG [0] rfl rfl rfl rfl Try.call186 rfl (curAnyLocks_own _ _ hcode _ (by omega)) (evl_cons (ev_tmp rfl) evl_nil) rfl ?_
    intro x17 ok17
    have hp17 := ok17.1
    refine sq_plain rfl rfl rfl (w_move rfl (ev_tmp rfl)) ?_
    refine sq_plain rfl rfl rfl (w_move rfl (ev_tmp rfl)) ?_
    refine sq_callG [0] rfl rfl rfl rfl Try.call187 rfl (curLock_own _ _ hcode _ (by omega)) (evl_cons (ev_tmp rfl) evl_nil) rfl ?_
    intro x20 ok20
    refine sq_plain rfl rfl rfl (w_assign rfl (ev_tmp rfl)) ?_
    refine sq_plain rfl rfl rfl (w_assign rfl (ev_tmp rfl)) ?_
    refine sq_storeB0 2 rfl rfl rfl (ev_tmp rfl) (ev_tmp rfl) (as_agg _) rfl Try.sizeOf96 rfl ?_
    refine sq_nil ?_
    refine awp_ret ?_
    (refine retG [1] ((x17.2.1, [], x20.2, x17.2.2)) ?_ rfl (by first | (dsimp only; rfl) | rfl) (resN rfl (by decide) (rv_cons (rv_tmp' rfl (by rfl)) (rv_cons (rv_tmp' rfl (by rfl)) (rv_cons (rv_cell (ys := _) 2 rfl rfl Try.isAgg96 Try.sizeOf96 rfl) rv_nil)))); exact ⟨ok17.2, by first | exact Nat.zero_le _ | exact Nat.le_refl _, ok20.2.1⟩)
end Go.Proofs.Yteliahajeokciaa
