/- Walks: writes put into cells. -/
import Derived.Test.YteliahajeokciaaCell2W
set_option linter.unusedVariables false
set_option linter.unusedSimpArgs false
set_option maxRecDepth 100000
set_option maxHeartbeats 1000000
namespace Go.Proofs.Yteliahajeokciaa
open Go Go.AV Go.M
attribute [local irreducible] OpW OpA OpS AWP FSpec ESpec GSpec OpE RetOk RetOkG RvDen Le Ev GuardIs SrcIs
theorem insertRows_own' (v vv : Value) (l : List (List AV)) (x : List AV) (hx2 : x.length = 2) (hl2 : ∀ r ∈ l, r.length = 2) (i : Nat) (hi : i ≤ l.length) (hl : l.length ≤ 4194304) : GSpec Try.prog 241 [AV.is v, AV.int i, AV.is vv] [.arr v 153 2 l, .arr vv 153 2 [x]] (fun _ : Value => True) (fun v => [.arr v 153 2 (l.take i ++ x :: l.drop i)]) (fun v => AV.is v) := by
  have := insertRows_own v vv l x hx2 hl2 i hi hl
  simpa only [List.map_id, id_eq] using this
theorem nrows_two {l : List TCell} {xs : List Value} : ∀ r ∈ nrows TCell.ocs l xs, r.length = 2 := fun r hr => by
  unfold nrows at hr
  obtain ⟨i, hi⟩ := List.getElem?_of_mem hr
  rw [List.getElem?_zipWith] at hi
  split at hi
  · injection hi with hi; subst hi; rfl
  · cases hi
theorem size_take_le {α : Type} {f : α → Nat} {l : List α} (i : Nat) : sizeL f (l.take i) ≤ sizeL f l := by
  have := sizeL_append (f := f) (l := l.take i) (r := l.drop i)
  rw [List.take_append_drop] at this; omega
theorem size_take_succ {α : Type} {f : α → Nat} {l : List α} {i : Nat} {x : α} (h : l[i]? = some x) : sizeL f (l.take (i + 1)) = sizeL f (l.take i) + (1 + f x) := by
  rw [List.take_add_one, h, sizeL_append]
  show _ + sizeL f [x] = _
  rw [sizeL_cons]; rfl
/-- What a put does to rows and to what they hold. -/
def RowsTo (A : List (List AV)) (k : Str) (vs : List (List AV)) (B : List (List AV)) (D : List Own) (o2 : List TCell) (f : Value → List Value) : Prop :=
  ∀ y : Value, (f y).length = o2.length ∧ A ++ [AV.str k, AV.is y] :: B = nrows TCell.ocs o2 (f y) ∧ (Own.arr y 155 3 vs :: D).Perm (nin TCell.ow o2 (f y))
theorem rowsTo_set {o : List TCell} {xs : List Value} {p : Nat} {c : TCell} {y0 : Value} (hc : o[p]? = some c) (hy : xs[p]? = some y0) (hl : xs.length = o.length) (nv : TVer) :
    RowsTo (nrows TCell.ocs (o.take p) (xs.take p)) c.Key (c.Vers.map TVer.cs ++ [TVer.cs nv]) (nrows TCell.ocs (o.drop (p + 1)) (xs.drop (p + 1))) (nin TCell.ow (o.eraseIdx p) (xs.eraseIdx p)) (o.set p ⟨c.Key, c.Vers ++ [nv]⟩) (fun y => xs.set p y) := fun y => by
  have hp := (List.getElem?_eq_some_iff.1 hc).1
  have hx := (List.getElem?_eq_some_iff.1 hy).1
  have hc' : (o.set p ⟨c.Key, c.Vers ++ [nv]⟩)[p]? = some ⟨c.Key, c.Vers ++ [nv]⟩ := List.getElem?_set_self hp
  have hy' : (xs.set p y)[p]? = some y := List.getElem?_set_self hx
  refine ⟨by rw [List.length_set, List.length_set, hl], ?_, ?_⟩
  · rw [nrows_split hc' hy', List.take_set_of_le (Nat.le_refl _), List.take_set_of_le (Nat.le_refl _), List.drop_set_of_lt (by omega), List.drop_set_of_lt (by omega)]
    rfl
  · have h := nin_get (ow := TCell.ow) hc' hy'
    rw [List.eraseIdx_set_eq, List.eraseIdx_set_eq] at h
    refine List.Perm.trans ?_ h.symm
    unfold TCell.ow
    simp only [List.map_append, List.map_cons, List.map_nil]
    exact List.Perm.refl _
theorem rowsTo_ins {o : List TCell} {xs : List Value} {p : Nat} (hp : p ≤ o.length) (hl : xs.length = o.length) (k : Str) (nv : TVer) :
    RowsTo ((nrows TCell.ocs o xs).take p) k [TVer.cs nv] ((nrows TCell.ocs o xs).drop p) (nin TCell.ow o xs) (o.take p ++ ⟨k, [nv]⟩ :: o.drop p) (fun y => xs.take p ++ y :: xs.drop p) := fun y =>
  ⟨by rw [insx_len (by omega), insx_len hp, hl], nrows_ins (ocs := TCell.ocs) (p := ⟨k, [nv]⟩) hp hl, nin_ins (ow := TCell.ow) (p := ⟨k, [nv]⟩) hp hl⟩
theorem put_step {l o : List TCell} {w : List TWrite} {t : Int} {i : Nat} {x : TWrite} (h : putAll l w t = putAll o (w.drop i) t) (hx : w[i]? = some x) (ht : ¬ t ≤ lastTime o x.Key) : putAll l w t = putAll (putC1 o x t) (w.drop (i + 1)) t := by
  rw [h, drop_some hx]
  unfold putAll
  rw [if_neg (by simpa using ht)]
  cases w.drop (i + 1) <;> rfl
theorem put_stop {l o : List TCell} {w : List TWrite} {t : Int} {i : Nat} {x : TWrite} (h : putAll l w t = putAll o (w.drop i) t) (hx : w[i]? = some x) (ht : t ≤ lastTime o x.Key) : putAll l w t = none := by
  rw [h, drop_some hx]
  unfold putAll
  rw [if_pos (by simpa using ht)]
theorem put_end {l o : List TCell} {w : List TWrite} {t : Int} {i : Nat} (h : putAll l w t = putAll o (w.drop i) t) (hi : w.length ≤ i) : putAll l w t = some o := by
  rw [h, List.drop_eq_nil_of_le hi]; rfl
theorem putCells_own (l : List TCell) (w : List TWrite) (t : Int) (ho : CellsOk l) (hs : sizeL TCell.size l ≤ 1048576) (hw : sizeL TWrite.size w ≤ 1048576) : GSpec Try.prog 156 [AV.list 2 (l.map TCell.cs), AV.list 3 (w.map TWrite.cs), AV.int t] [] (fun x : Value × List Value => x.2.length = (putCells l w t).1.length) (fun x => .arr x.1 153 2 (nrows TCell.ocs (putCells l w t).1 x.2) :: nin TCell.ow (putCells l w t).1 x.2) (fun x => AV.tup [AV.is x.1, AV.bool (putCells l w t).2]) := by
  have hwl : w.length ≤ 1048576 := Nat.le_trans sizeL_len hw
  refine gspec_of_awp Try.func156 rfl Try.ntmps156 rfl ?_
  refine awp_seq ?_
  refine awp_region ?_
  refine sq_plain rfl rfl rfl (w_assign rfl ev_cnils) ?_
  refine sq_plain rfl rfl rfl (w_assign rfl ev_cb) ?_
  refine sq_nil ?_
  refine awp_seq ?_
  refine awp_region ?_
  refine sq_plain rfl rfl rfl (w_move rfl (ev_tmp rfl)) ?_
  refine sq_callGT [] 0 1 ([]) ([]) (fun zz => nin TCell.ow l zz.2) rfl rfl rfl rfl Try.call180 rfl rfl (show List.Perm ([]) (([]) ++ ([])) from List.Perm.refl _) (copyCells_own l (by omega)) (evl_cons (ev_tmp rfl) evl_nil) (fun a => perm_lin) ?_
  intro x14 ok14
  refine sq_plain rfl rfl rfl (w_assign rfl (ev_tmp rfl)) ?_
  refine sq_nil ?_
  refine awp_seq ?_
  refine awp_seq ?_
  refine awp_region ?_
  refine sq_plain rfl rfl rfl (w_move rfl (ev_tmp rfl)) ?_
  refine sq_plain rfl rfl rfl (w_llen rfl Try.underlying60 (ev_tmp rfl)) ?_
  refine sq_plain rfl rfl rfl (w_move rfl ev_ci) ?_
  refine sq_nil ?_
  refine awp_block ?_
  refine awp_loop_i4 [(2, _), (15, _), (16, _)] [] (fun (i : Nat) (v : Value) (q : List TCell) (xs : List Value) => i ≤ w.length ∧ xs.length = q.length ∧ CellsOk q ∧ sizeL TCell.size q ≤ 1048576 + 2 * sizeL TWrite.size (w.take i) ∧ putAll l w t = putAll q (w.drop i) t) (fun (i : Nat) (v : Value) (q : List TCell) (xs : List Value) => [.arr v 153 2 (nrows TCell.ocs q xs)] ++ (nin TCell.ow q xs)) (fun (i : Nat) (v : Value) (q : List TCell) (xs : List Value) => [(8, AV.is v), (17, AV.int i)]) (fun (i : Nat) (v : Value) (q : List TCell) (xs : List Value) => w.length - i) (0) (x14.1) (l) (x14.2) ?_ (le_eq (by rw [List.append_nil]; rfl) ⟨rfl, rfl, rfl, rfl, rfl, trivial⟩) ?_
  · exact ⟨Nat.zero_le _, ok14, ho, by omega, rfl⟩
  intro i v q xs hinv
  have hlen := hinv.2.1
  refine awp_own (List.append_nil _) ?_
  refine awp_seq ?_
  refine awp_region ?_
  refine sq_plain rfl rfl rfl (w_lss rfl (ev_tmp rfl) (ev_tmp rfl)) ?_
  refine sq_nil ?_
  refine awp_seq ?_
  refine awp_cond (ev_tmp rfl) ?_ ?_
  · intro h18
    have k18 := of_decide_eq_true h18; try simp only [List.length_map] at k18
    have hlt : i < w.length := by omega
    obtain ⟨x, hx⟩ := get_some hlt
    have htk := size_take_le (f := TWrite.size) (l := w) i
    have hso : sizeL TCell.size q ≤ 4194304 := by omega
    have hol : q.length ≤ 4194304 := Nat.le_trans sizeL_len hso
    refine awp_skip ?_
    refine awp_seq ?_
    refine awp_block ?_
    refine awp_seq ?_
    refine awp_region ?_
    refine sq_plain rfl rfl rfl (w_idxm rfl Try.underlying60 Try.sizeOf65 (ev_tmp rfl) (ev_tmp rfl) hx (by first | omega | ((try simp only [List.length_map, List.length_take, List.length_cons, List.length_nil, chunks_len, szR] at *); omega) | (have hc2 := hc; simp only [Bool.and_eq_true, Bool.or_eq_true, Bool.or_eq_false_iff, Bool.and_eq_false_iff, Bool.not_eq_true', Bool.not_eq_false', decide_eq_true_eq, decide_eq_false_iff_not, beq_iff_eq, bne_iff_ne, List.length_map, List.length_take] at hc2; omega))) ?_
    refine sq_plain rfl rfl rfl (w_loadE rfl (ev_tmp rfl) Try.isAgg65 Try.sizeOf65) ?_
    refine sq_alloc rfl rfl rfl rfl Try.zeroValue65 rfl ?_
    intro b10
    refine sq_storeB0 0 rfl rfl rfl (ev_tmp rfl) (ev_tmp rfl) (as_agg _) rfl Try.sizeOf65 rfl ?_
    refine sq_nil ?_
    refine awp_seq ?_
    refine awp_seq ?_
    refine awp_region ?_
    refine sq_plain rfl rfl rfl (w_move rfl (ev_tmp rfl)) ?_
    refine sq_plain rfl rfl rfl (w_move rfl (ev_tmp rfl)) ?_
    refine sq_plain rfl rfl rfl (w_fldBn 0 rfl Try.underlying65 rfl Try.sizeOf9 (ev_tmp rfl) rfl) ?_
    refine sq_plain rfl rfl rfl (w_loadB1 0 rfl (ev_tmp rfl) rfl Try.isAgg9 rfl) ?_
    refine sq_plain rfl rfl rfl (w_callB rfl Try.call164 rfl (lastTime_spec q x.Key hinv.2.2.1 hso) (flat_ik _ _) (evlb_cons (evb_lt (ev_tmp rfl) (nin_lend TCell.lcM (by first | exact hlen | exact hlen.trans (marksN_len _ _).symm) 1 rfl (fun o ho => List.mem_of_mem_drop (i := 2) (show o ∈ nin TCell.ow q xs from by first | exact ho | exact List.mem_append_left _ ho | exact List.mem_append_right _ ho | exact List.mem_append_right _ (List.mem_append_left _ ho) | exact List.mem_append_right _ (List.mem_append_right _ ho))))) (evlb_cons (evb (ev_tmp rfl)) evlb_nil))) ?_
    refine sq_plain rfl rfl rfl (w_leq rfl (ev_tmp rfl) (ev_tmp rfl)) ?_
    refine sq_nil ?_
    refine awp_cond (ev_tmp rfl) ?_ ?_
    · intro h26
      have k26 := of_decide_eq_true h26; try simp only [List.length_map] at k26
      have he : putCells l w t = ([], false) := by unfold putCells; rw [put_stop hinv.2.2.2.2 hx k26]
      rw [he]
      refine awp_seq ?_
      refine awp_region ?_
      refine sq_plain rfl rfl rfl (w_assign rfl ev_cnils) ?_
      refine sq_plain rfl rfl rfl (w_assign rfl ev_cb) ?_
      refine sq_nil ?_
      refine awp_ret ?_
      refine retG_nil 153 2 ?_
      first | exact retG [0] ((Value.slice none 0 0), []) (rfl) rfl (by rfl) (resN rfl (by decide) (rv_cons (rv_tmp' rfl (by rfl)) (rv_cons (rv_tmp' rfl (by rfl)) rv_nil))) | exact retGT [0] 2 (nin TCell.ow q xs) [] ((Value.slice none 0 0), []) (rfl) rfl (show List.Perm (nin TCell.ow q xs) ((nin TCell.ow q xs) ++ []) from perm_nil) (by rfl) (resN rfl (by decide) (rv_cons (rv_tmp' rfl (by rfl)) (rv_cons (rv_tmp' rfl (by rfl)) rv_nil))) | exact retG [0] ((Value.slice none 0 0), xs) (hinv.2.1) rfl (by rfl) (resN rfl (by decide) (rv_cons (rv_tmp' rfl (by rfl)) (rv_cons (rv_tmp' rfl (by rfl)) rv_nil))) | exact retGT [0] 2 (nin TCell.ow q xs) [] ((Value.slice none 0 0), xs) (hinv.2.1) rfl (show List.Perm (nin TCell.ow q xs) ((nin TCell.ow q xs) ++ []) from perm_nil) (by rfl) (resN rfl (by decide) (rv_cons (rv_tmp' rfl (by rfl)) (rv_cons (rv_tmp' rfl (by rfl)) rv_nil)))
    · intro h26
      have k26 := of_decide_eq_false h26; try simp only [List.length_map] at k26
      refine awp_skip ?_
      refine awp_seq ?_
      refine awp_region ?_
      refine sq_plain rfl rfl rfl (w_move rfl (ev_tmp rfl)) ?_
      refine sq_plain rfl rfl rfl (w_fldBn 0 rfl Try.underlying65 rfl Try.sizeOf9 (ev_tmp rfl) rfl) ?_
      refine sq_plain rfl rfl rfl (w_loadB1 0 rfl (ev_tmp rfl) rfl Try.isAgg9 rfl) ?_
      refine sq_plain rfl rfl rfl (w_callB rfl Try.call234 rfl (findCell_spec q x.Key (by omega)) (flat_tup (flatl_cons (flat_ik _ _) (flatl_cons (flat_bool _) flatl_nil))) (evlb_cons (evb_lt (ev_tmp rfl) (nin_lend TCell.lcM (by first | exact hlen | exact hlen.trans (marksN_len _ _).symm) 1 rfl (fun o ho => List.mem_of_mem_drop (i := 2) (show o ∈ nin TCell.ow q xs from by first | exact ho | exact List.mem_append_left _ ho | exact List.mem_append_right _ ho | exact List.mem_append_right _ (List.mem_append_left _ ho) | exact List.mem_append_right _ (List.mem_append_right _ ho))))) (evlb_cons (evb (ev_tmp rfl)) evlb_nil))) ?_
      refine sq_plain rfl rfl rfl (w_move rfl (ev_tmp rfl)) ?_
      refine sq_plain rfl rfl rfl (w_extract rfl (ev_tmp rfl) rfl) ?_
      refine sq_plain rfl rfl rfl (w_extract rfl (ev_tmp rfl) rfl) ?_
      refine sq_plain rfl rfl rfl (w_assign rfl (ev_tmp rfl)) ?_
      refine sq_plain rfl rfl rfl (w_assign rfl (ev_tmp rfl)) ?_
      refine sq_nil ?_
      refine awp_seq ?_
      refine awp_seq ?_
      refine awp_region ?_
      refine sq_plain rfl rfl rfl (w_move rfl (ev_tmp rfl)) ?_
      refine sq_plain rfl rfl rfl (w_not rfl (ev_tmp rfl)) ?_
      refine sq_nil ?_
      refine awp_cond (ev_tmp rfl) ?_ ?_
      · intro h35
        have hn : cHas q x.Key = false := by simpa using h35
        have hpl : cPos q x.Key ≤ (nrows TCell.ocs q xs).length := by rw [nrows_len hlen]; exact cPos_le _ _
        have hA : ((nrows TCell.ocs q xs).take (cPos q x.Key)).length = cPos q x.Key := by rw [List.length_take]; omega
        obtain ⟨fx, hto⟩ : ∃ fx, RowsTo ((nrows TCell.ocs q xs).take (cPos q x.Key)) x.Key [TVer.cs ⟨t, x.Val, x.Gone⟩] ((nrows TCell.ocs q xs).drop (cPos q x.Key)) (nin TCell.ow q xs) (putC1 q x t) fx := ⟨_, by unfold putC1; rw [pos_new hinv.2.2.1.1 hn]; exact rowsTo_ins (cPos_le _ _) hlen _ _⟩
        refine awp_region ?_
        refine sq_plain rfl rfl rfl (w_move rfl (ev_tmp rfl)) ?_
        refine sq_plain rfl rfl rfl (w_move rfl (ev_tmp rfl)) ?_
        refine sq_plain rfl rfl rfl (w_fldBn 0 rfl Try.underlying65 rfl Try.sizeOf9 (ev_tmp rfl) rfl) ?_
        refine sq_plain rfl rfl rfl (w_loadB1 0 rfl (ev_tmp rfl) rfl Try.isAgg9 rfl) ?_
        refine sq_plain rfl rfl rfl (w_build (places := #[(0, 1), (1, 1)]) rfl Try.underlying153 Try.zeroValue153 (fun w => by kernel_rfl) rfl (bp_cons (ev_tmp rfl) (as_str _) bp_nil) rfl) ?_
        refine sq_bsliceO rfl rfl rfl rfl Try.underlying53 Try.sizeOf153 Try.zeroValue153 rfl rfl rfl rfl (bp_cons (ev_tmp rfl) (as_agg _) bp_nil) rfl rfl ?_
        intro v41
        refine sq_callG [2, 0] rfl rfl rfl rfl Try.call241 rfl (insertRows_own' _ _ (nrows TCell.ocs q xs) [AV.str x.Key, AV.nils] rfl nrows_two (cPos q x.Key) hpl (by rw [nrows_len hlen]; omega)) (evl_cons (ev_tmp rfl) (evl_cons (ev_tmp rfl) (evl_cons (ev_tmp rfl) evl_nil))) rfl ?_
        intro x42 ok42
        refine sq_nilown 155 3 ?_
        refine sq_plain rfl rfl rfl (w_assign rfl (ev_tmp rfl)) ?_
        refine sq_nil ?_
        refine AWP.le (le_pick [2, 1, 0] rfl) ?_
        refine awp_region_mix _ [(0, false), (1, false), (2, false), (3, false), (4, false), (5, false), (6, false), (7, false), (8, false), (9, false), (10, false), (11, false), (12, false), (13, false), (14, true)] (by kernel_rfl) (by kernel_rfl) rfl (invx_take 2) ?_
        refine bc_plain rfl rfl rfl (fun ext => w_move rfl (ev_tmp rfl)) ?_
        refine bc_plain rfl rfl rfl (fun ext => w_move rfl (ev_tmp rfl)) ?_
        refine bc_plain rfl rfl rfl (fun ext => w_move rfl (ev_tmp rfl)) ?_
        refine bc_plain rfl rfl rfl (fun ext => w_move rfl (ev_tmp rfl)) ?_
        refine bc_plain rfl rfl rfl (fun ext => w_aidx 1 rfl Try.underlying53 Try.sizeOf153 (ev_tmp rfl) rfl (ev_tmp rfl) (by omega) (by rw [List.length_append, List.length_cons]; omega)) ?_
        refine bc_plain rfl rfl rfl (fun ext => w_fldX 1 rfl Try.underlying153 rfl Try.sizeOf151 (ev_tmp rfl) rfl rfl (app_get hA)) ?_
        refine bc_plain rfl rfl rfl (fun ext => w_loadXf 1 rfl (ev_tmp rfl) rfl Try.isAgg151 (app_get hA) rfl) ?_
        refine bc_plain rfl rfl rfl (fun ext => w_move rfl (ev_tmp rfl)) ?_
        refine bc_plain rfl rfl rfl (fun ext => w_fldBn 1 rfl Try.underlying65 rfl Try.sizeOf9 (ev_tmp rfl) rfl) ?_
        refine bc_plain rfl rfl rfl (fun ext => w_loadB1 0 rfl (ev_tmp rfl) rfl Try.isAgg9 rfl) ?_
        refine bc_plain rfl rfl rfl (fun ext => w_fldBn 2 rfl Try.underlying65 rfl Try.sizeOf4 (ev_tmp rfl) rfl) ?_
        refine bc_plain rfl rfl rfl (fun ext => w_loadB1 0 rfl (ev_tmp rfl) rfl Try.isAgg4 rfl) ?_
        refine bc_plain rfl rfl rfl (fun ext => w_build (places := #[(0, 1), (1, 1), (2, 1)]) rfl Try.underlying155 Try.zeroValue155 (fun w => by kernel_rfl) rfl (bp_cons (ev_tmp rfl) (as_ik _ _) (bp_cons (ev_tmp rfl) (as_str _) (bp_cons (ev_tmp rfl) (as_bool _) bp_nil))) rfl) ?_
        refine bc_plain rfl rfl rfl (fun ext => w_bslice rfl Try.underlying151 Try.sizeOf155 Try.zeroValue155 rfl rfl rfl rfl (bp_cons (ev_tmp rfl) (as_agg _) bp_nil) rfl rfl) ?_
        refine bc_eff rfl rfl rfl (opE_append (by' := 32) 2 rfl Try.underlying151 Try.type155 rfl rfl rfl rfl rfl rfl (ev_tmp rfl) (ev_tmp rfl) rfl (by first | omega | ((try simp only [List.length_map, List.length_take, List.length_cons, List.length_nil, chunks_len, szR] at *); omega) | (have hc2 := hc; simp only [Bool.and_eq_true, Bool.or_eq_true, Bool.or_eq_false_iff, Bool.and_eq_false_iff, Bool.not_eq_true', Bool.not_eq_false', decide_eq_true_eq, decide_eq_false_iff_not, beq_iff_eq, bne_iff_ne, List.length_map, List.length_take] at hc2; omega))) (fun a _ => (by first | exact invx_mk rfl | exact invx_mk (List.append_assoc _ _ _) | exact invx_all)) ?_
        intro v57_2 _
        refine bc_nil ?_
        refine sq_plain rfl rfl rfl (w_aidx 1 rfl Try.underlying53 Try.sizeOf153 (ev_tmp rfl) rfl (ev_tmp rfl) (by omega) (by rw [List.length_append, List.length_cons]; omega)) ?_
        refine sq_plain rfl rfl rfl (w_fldX 1 rfl Try.underlying153 rfl Try.sizeOf151 (ev_tmp rfl) rfl rfl (app_get hA)) ?_
        refine sq_fact 2 rfl fun one_v57_2 => ?_
        refine sq_storeXA 1 rfl rfl rfl (ev_tmp rfl) (ev_tmp rfl) (as_is one_v57_2) rfl Try.sizeOf151 hA rfl ?_
        refine sq_nil ?_
        refine AWP.le (le_pick [0, 0, 0] rfl) ?_
        refine AWP.le (le_tail 2 (t := nin TCell.ow (putC1 q x t) (fx v57_2)) ((hto v57_2).2.2)) ?_
        refine AWP.le (le_pick [0] rfl) ?_
        refine awp_region ?_
        refine sq_plain rfl rfl rfl (w_addi rfl (ev_tmp rfl) ev_ci (by first | omega | ((try simp only [List.length_map, List.length_take, List.length_cons, List.length_nil, chunks_len, szR] at *); omega) | (have hc2 := hc; simp only [Bool.and_eq_true, Bool.or_eq_true, Bool.or_eq_false_iff, Bool.and_eq_false_iff, Bool.not_eq_true', Bool.not_eq_false', decide_eq_true_eq, decide_eq_false_iff_not, beq_iff_eq, bne_iff_ne, List.length_map, List.length_take] at hc2; omega))) ?_
        refine sq_plain rfl rfl rfl (w_move rfl (ev_tmp rfl)) ?_
        refine sq_nil ?_
        refine round_end4 i v q xs (i + 1) (x42) (putC1 q x t) (fx v57_2) ?_ ?_ (le_dropeq 1 (Eq.trans (by exact congrArg (fun z => Own.arr _ _ _ z :: _) (hto v57_2).2.1) (List.append_nil _).symm) ⟨rfl, rfl, rfl, rfl, rfl, trivial⟩)
        · exact ⟨by omega, (hto _).1, cellsOk_ins hinv.2.2.1 _ _, by have h8 := putC1_size q x t; have h9 := size_take_succ (f := TWrite.size) hx; omega, put_step hinv.2.2.2.2 hx k26⟩
        · omega
      · intro h35
        have hn : cHas q x.Key = true := by simpa using h35
        obtain ⟨c, hc, hck, hins⟩ := pos_has hinv.2.2.1.1 hn ⟨t, x.Val, x.Gone⟩
        have hpo := (List.getElem?_eq_some_iff.1 hc).1
        obtain ⟨y, hy⟩ := get_some (show cPos q x.Key < xs.length by omega)
        have hA := nrows_tlen (ocs := TCell.ocs) hc hy
        obtain ⟨fx, hto⟩ : ∃ fx, RowsTo (nrows TCell.ocs (q.take (cPos q x.Key)) (xs.take (cPos q x.Key))) c.Key (c.Vers.map TVer.cs ++ [TVer.cs ⟨t, x.Val, x.Gone⟩]) (nrows TCell.ocs (q.drop (cPos q x.Key + 1)) (xs.drop (cPos q x.Key + 1))) (nin TCell.ow (q.eraseIdx (cPos q x.Key)) (xs.eraseIdx (cPos q x.Key))) (putC1 q x t) fx := ⟨_, by have h7 := rowsTo_set hc hy hlen ⟨t, x.Val, x.Gone⟩; unfold putC1; rw [hins, ← hck]; rw [hck] at h7 ⊢; exact h7⟩
        have hcs := cell_len (Nat.le_trans (sizeL_get hc) hso)
        rw [nrows_split hc hy]
        refine AWP.le (le_tail 2 (t := (TCell.ow c y) ++ (nin TCell.ow (q.eraseIdx (cPos q x.Key)) (xs.eraseIdx (cPos q x.Key)))) (nin_get (ow := TCell.ow) hc hy)) ?_
        refine awp_skip ?_
        refine AWP.le (le_pick [0, 0, 0] rfl) ?_
        refine awp_region_mix _ [(0, false), (1, false), (2, false), (3, false), (4, false), (5, false), (6, false), (7, false), (8, false), (9, false), (10, false), (11, false), (12, false), (13, false), (14, true)] (by kernel_rfl) (by kernel_rfl) rfl (invx_take 2) ?_
        refine bc_plain rfl rfl rfl (fun ext => w_move rfl (ev_tmp rfl)) ?_
        refine bc_plain rfl rfl rfl (fun ext => w_move rfl (ev_tmp rfl)) ?_
        refine bc_plain rfl rfl rfl (fun ext => w_move rfl (ev_tmp rfl)) ?_
        refine bc_plain rfl rfl rfl (fun ext => w_move rfl (ev_tmp rfl)) ?_
        refine bc_plain rfl rfl rfl (fun ext => w_aidx 1 rfl Try.underlying53 Try.sizeOf153 (ev_tmp rfl) rfl (ev_tmp rfl) (by omega) (by rw [List.length_append, List.length_cons]; omega)) ?_
        refine bc_plain rfl rfl rfl (fun ext => w_fldX 1 rfl Try.underlying153 rfl Try.sizeOf151 (ev_tmp rfl) rfl rfl (app_get hA)) ?_
        refine bc_plain rfl rfl rfl (fun ext => w_loadXf 1 rfl (ev_tmp rfl) rfl Try.isAgg151 (app_get hA) rfl) ?_
        refine bc_plain rfl rfl rfl (fun ext => w_move rfl (ev_tmp rfl)) ?_
        refine bc_plain rfl rfl rfl (fun ext => w_fldBn 1 rfl Try.underlying65 rfl Try.sizeOf9 (ev_tmp rfl) rfl) ?_
        refine bc_plain rfl rfl rfl (fun ext => w_loadB1 0 rfl (ev_tmp rfl) rfl Try.isAgg9 rfl) ?_
        refine bc_plain rfl rfl rfl (fun ext => w_fldBn 2 rfl Try.underlying65 rfl Try.sizeOf4 (ev_tmp rfl) rfl) ?_
        refine bc_plain rfl rfl rfl (fun ext => w_loadB1 0 rfl (ev_tmp rfl) rfl Try.isAgg4 rfl) ?_
        refine bc_plain rfl rfl rfl (fun ext => w_build (places := #[(0, 1), (1, 1), (2, 1)]) rfl Try.underlying155 Try.zeroValue155 (fun w => by kernel_rfl) rfl (bp_cons (ev_tmp rfl) (as_ik _ _) (bp_cons (ev_tmp rfl) (as_str _) (bp_cons (ev_tmp rfl) (as_bool _) bp_nil))) rfl) ?_
        refine bc_plain rfl rfl rfl (fun ext => w_bslice rfl Try.underlying151 Try.sizeOf155 Try.zeroValue155 rfl rfl rfl rfl (bp_cons (ev_tmp rfl) (as_agg _) bp_nil) rfl rfl) ?_
        refine bc_eff rfl rfl rfl (opE_append (by' := 32) 2 rfl Try.underlying151 Try.type155 rfl rfl rfl rfl rfl rfl (ev_tmp rfl) (ev_tmp rfl) rfl (by first | omega | ((try simp only [List.length_map, List.length_take, List.length_cons, List.length_nil, chunks_len, szR] at *); omega) | (have hc2 := hc; simp only [Bool.and_eq_true, Bool.or_eq_true, Bool.or_eq_false_iff, Bool.and_eq_false_iff, Bool.not_eq_true', Bool.not_eq_false', decide_eq_true_eq, decide_eq_false_iff_not, beq_iff_eq, bne_iff_ne, List.length_map, List.length_take] at hc2; omega))) (fun a _ => (by first | exact invx_mk rfl | exact invx_mk (List.append_assoc _ _ _) | exact invx_all)) ?_
        intro v57_3 _
        refine bc_nil ?_
        refine sq_plain rfl rfl rfl (w_aidx 1 rfl Try.underlying53 Try.sizeOf153 (ev_tmp rfl) rfl (ev_tmp rfl) (by omega) (by rw [List.length_append, List.length_cons]; omega)) ?_
        refine sq_plain rfl rfl rfl (w_fldX 1 rfl Try.underlying153 rfl Try.sizeOf151 (ev_tmp rfl) rfl rfl (app_get hA)) ?_
        refine sq_fact 2 rfl fun one_v57_3 => ?_
        refine sq_storeXA 1 rfl rfl rfl (ev_tmp rfl) (ev_tmp rfl) (as_is one_v57_3) rfl Try.sizeOf151 hA rfl ?_
        refine sq_nil ?_
        refine AWP.le (le_pick [0, 0, 0] rfl) ?_
        refine AWP.le (le_tail 2 (t := nin TCell.ow (putC1 q x t) (fx v57_3)) ((hto v57_3).2.2)) ?_
        refine AWP.le (le_pick [0] rfl) ?_
        refine awp_region ?_
        refine sq_plain rfl rfl rfl (w_addi rfl (ev_tmp rfl) ev_ci (by first | omega | ((try simp only [List.length_map, List.length_take, List.length_cons, List.length_nil, chunks_len, szR] at *); omega) | (have hc2 := hc; simp only [Bool.and_eq_true, Bool.or_eq_true, Bool.or_eq_false_iff, Bool.and_eq_false_iff, Bool.not_eq_true', Bool.not_eq_false', decide_eq_true_eq, decide_eq_false_iff_not, beq_iff_eq, bne_iff_ne, List.length_map, List.length_take] at hc2; omega))) ?_
        refine sq_plain rfl rfl rfl (w_move rfl (ev_tmp rfl)) ?_
        refine sq_nil ?_
        refine round_end4 i v q xs (i + 1) (v) (putC1 q x t) (fx v57_3) ?_ ?_ (le_dropeq 1 (Eq.trans (by exact congrArg (fun z => Own.arr _ _ _ z :: _) (hto v57_3).2.1) (List.append_nil _).symm) ⟨rfl, rfl, rfl, rfl, rfl, trivial⟩)
        · exact ⟨by omega, (hto _).1, cellsOk_ins hinv.2.2.1 _ _, by have h8 := putC1_size q x t; have h9 := size_take_succ (f := TWrite.size) hx; omega, put_step hinv.2.2.2.2 hx k26⟩
        · omega
  · intro h18
    have k18 := of_decide_eq_false h18; try simp only [List.length_map] at k18
    have hge : w.length ≤ i := by omega
    have hpe := put_end hinv.2.2.2.2 hge
    have htk := size_take_le (f := TWrite.size) (l := w) i
    have hso : sizeL TCell.size q ≤ 4194304 := by omega
    refine awp_exit ?_
    refine awp_seq ?_
    refine awp_seq ?_
    refine awp_region ?_
    refine sq_plain rfl rfl rfl (w_move rfl (ev_tmp rfl)) ?_
    refine sq_plain rfl rfl rfl (w_callB rfl Try.call49 rfl (goodCells_spec q hso) (flat_bool _) (evlb_cons (evb_lt (ev_tmp rfl) (nin_lend TCell.lcM (by first | exact hlen | exact hlen.trans (marksN_len _ _).symm) 0 rfl (fun o ho => List.mem_of_mem_drop (i := 1) (show o ∈ nin TCell.ow q xs from by first | exact ho | exact List.mem_append_left _ ho | exact List.mem_append_right _ ho | exact List.mem_append_right _ (List.mem_append_left _ ho) | exact List.mem_append_right _ (List.mem_append_right _ ho))))) evlb_nil)) ?_
    refine sq_plain rfl rfl rfl (w_not rfl (ev_tmp rfl)) ?_
    refine sq_nil ?_
    refine awp_cond (ev_tmp rfl) ?_ ?_
    · intro h63
      have he : putCells l w t = ([], false) := by unfold putCells; rw [hpe]; simp only; rw [if_pos h63]
      rw [he]
      refine awp_seq ?_
      refine awp_region ?_
      refine sq_plain rfl rfl rfl (w_assign rfl ev_cnils) ?_
      refine sq_plain rfl rfl rfl (w_assign rfl ev_cb) ?_
      refine sq_nil ?_
      refine awp_ret ?_
      refine retG_nil 153 2 ?_
      first | exact retG [0] ((Value.slice none 0 0), []) (rfl) rfl (by rfl) (resN rfl (by decide) (rv_cons (rv_tmp' rfl (by rfl)) (rv_cons (rv_tmp' rfl (by rfl)) rv_nil))) | exact retGT [0] 1 (nin TCell.ow q xs) [] ((Value.slice none 0 0), []) (rfl) rfl (show List.Perm (nin TCell.ow q xs) ((nin TCell.ow q xs) ++ []) from perm_nil) (by rfl) (resN rfl (by decide) (rv_cons (rv_tmp' rfl (by rfl)) (rv_cons (rv_tmp' rfl (by rfl)) rv_nil))) | exact retG [0] ((Value.slice none 0 0), xs) (hinv.2.1) rfl (by rfl) (resN rfl (by decide) (rv_cons (rv_tmp' rfl (by rfl)) (rv_cons (rv_tmp' rfl (by rfl)) rv_nil))) | exact retGT [0] 1 (nin TCell.ow q xs) [] ((Value.slice none 0 0), xs) (hinv.2.1) rfl (show List.Perm (nin TCell.ow q xs) ((nin TCell.ow q xs) ++ []) from perm_nil) (by rfl) (resN rfl (by decide) (rv_cons (rv_tmp' rfl (by rfl)) (rv_cons (rv_tmp' rfl (by rfl)) rv_nil)))
    · intro h63
      have he : putCells l w t = (q, true) := by unfold putCells; rw [hpe]; simp only; rw [if_neg (by rw [h63]; decide)]
      rw [he]
      refine awp_skip ?_
      refine awp_seq ?_
      refine awp_region ?_
      refine sq_plain rfl rfl rfl (w_move rfl (ev_tmp rfl)) ?_
      refine sq_plain rfl rfl rfl (w_assign rfl (ev_tmp rfl)) ?_
      refine sq_plain rfl rfl rfl (w_assign rfl ev_cb) ?_
      refine sq_nil ?_
      refine awp_ret ?_
      first | exact retG [0] (v, []) (rfl) rfl (by rfl) (resN rfl (by decide) (rv_cons (rv_tmp' rfl (by rfl)) (rv_cons (rv_tmp' rfl (by rfl)) rv_nil))) | exact retGT [0] 0 (nin TCell.ow q xs) [] (v, []) (rfl) rfl (show List.Perm (nin TCell.ow q xs) ((nin TCell.ow q xs) ++ []) from perm_nil) (by rfl) (resN rfl (by decide) (rv_cons (rv_tmp' rfl (by rfl)) (rv_cons (rv_tmp' rfl (by rfl)) rv_nil))) | exact retGT [0] 0 (nin TCell.ow q xs) [] (v, xs) (hinv.2.1) rfl (show List.Perm (nin TCell.ow q xs) ((nin TCell.ow q xs) ++ []) from perm_nil) (by rfl) (resN rfl (by decide) (rv_cons (rv_tmp' rfl (by rfl)) (rv_cons (rv_tmp' rfl (by rfl)) rv_nil)))
end Go.Proofs.Yteliahajeokciaa
