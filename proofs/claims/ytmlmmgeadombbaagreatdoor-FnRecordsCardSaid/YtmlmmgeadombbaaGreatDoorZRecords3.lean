/- Texts of the claim, part 3. -/
import Derived.Test.YtmlmmgeadombbaaGreatDoorRows
import Derived.Test.YtmlmmgeadombbaaGreatDoorZRecords2

set_option linter.unusedVariables false
set_option linter.unusedSimpArgs false
set_option maxRecDepth 100000
namespace Go.M
open Go.AV
theorem rem_byte (c : UInt8) : IntKind.i64.wrap ((c.toNat : Int).tmod 128) = ((c.toNat % 128 : Nat) : Int) := by
  have h1 := tmod_nat c.toNat 128
  rw [show ((128 : Nat) : Int) = 128 from rfl] at h1
  rw [h1]; exact wrap_nat (by omega)
theorem vval_next (p : Str) (c : UInt8) : ((vval p : Nat) : Int) + ((c.toNat % 128 : Nat) : Int) * ((128 ^ p.length : Nat) : Int) = ((vval (p ++ [c]) : Nat) : Int) := by
  rw [vval_snoc]; simp
theorem pow_le5 {p : Str} (h : p.length ≤ 5) : 128 ^ p.length ≤ 34359738368 := Nat.le_trans (Nat.pow_le_pow_right (by decide) h) (by decide)
theorem mul_bd {a b : Nat} (ha : a ≤ 127) (hb : b ≤ 34359738368) : -9223372036854775808 ≤ ((a : Nat) : Int) * ((b : Nat) : Int) ∧ ((a : Nat) : Int) * ((b : Nat) : Int) ≤ 4363686772736 := by
  have h := Nat.mul_le_mul ha hb
  have h2 : ((a : Nat) : Int) * ((b : Nat) : Int) = ((a * b : Nat) : Int) := by simp
  rw [h2]; omega
theorem pow_next (p : Str) (c : UInt8) : ((128 ^ p.length : Nat) : Int) * 128 = ((128 ^ (p ++ [c]).length : Nat) : Int) := by
  rw [List.length_append, List.length_cons, List.length_nil, Nat.zero_add, Nat.pow_succ]; simp
theorem drop_more {b p r : Str} {a : Nat} {c : UInt8} (h : b.drop a = p ++ c :: r) : b.drop a = (p ++ [c]) ++ r := by rw [h, List.append_assoc]; rfl
theorem drop_at {b p r : Str} {a : Nat} (h : b.drop a = p ++ r) : b.drop (a + p.length) = r := by rw [← List.drop_drop, h, List.drop_left]
theorem take_drop_at {b p r : Str} {a : Nat} (h : b.drop a = p ++ r) : (b.take (a + p.length)).drop a = p := by
  rw [List.drop_take, h, Nat.add_sub_cancel_left, List.take_left]
theorem numOk_none {b : Str} {s t : TSrc} (h1 : s.at' ≤ t.at' ∧ t.at' ≤ b.length) (h2 : t.bad = true) (h3 : numA b s = none) : NumOk b s (t, 0) := ⟨h1, Nat.zero_le _, by rw [h3]; exact ⟨h2, rfl⟩⟩
theorem numA_good {b : Str} {s : TSrc} (h : s.bad = false) : numA b s = numP (b.drop s.at') := by unfold numA; rw [h]; rfl
theorem numA_bad {b : Str} {s : TSrc} (h : s.bad = true) : numA b s = none := by unfold numA; rw [h]; rfl
theorem textOk_big {b : Str} {s : TSrc} {x : TSrc × Nat} (hs : s.at' ≤ b.length) (h : NumOk b s x) (hn : 60 < x.2) : TextOk b s (⟨x.1.at', true⟩, []) := by
  refine ⟨h.1, Nat.zero_le _, ?_⟩
  have hb : x.1.bad = false := by
    cases hb : x.1.bad with
    | false => rfl
    | true => have := numOk_zero h hb; omega
  obtain ⟨n, k, h1, h2⟩ := numOk_good h hb
  rw [textA_take h1 hs, if_neg (by rw [h2] at hn; simp only at hn; omega)]
  exact ⟨rfl, rfl⟩
theorem textOk_take {b : Str} {s : TSrc} {x : TSrc × Nat} (hs : s.at' ≤ b.length) (h : NumOk b s x) (hn : x.2 ≤ 60) : TextOk b s (takeR b x.1 x.2) := by
  have h0 := h.1
  cases hb : x.1.bad with
  | true =>
    rw [takeR_bad hb]
    exact ⟨h0, Nat.zero_le _, by rw [textA_none (numOk_bad h hb)]; exact ⟨rfl, rfl⟩⟩
  | false =>
    obtain ⟨n, k, h1, h2⟩ := numOk_good h hb
    subst h2
    simp only at hn h0 ⊢
    have hl : (b.drop s.at').length = b.length - s.at' := List.length_drop
    have ht := textA_take h1 hs
    unfold takeR
    by_cases hc : k + n ≤ (b.drop s.at').length
    · rw [if_pos ⟨hn, hc⟩, List.drop_drop] at ht
      rw [if_neg (by rw [Bool.false_or, decide_eq_true_eq]; simp only; omega)]
      refine ⟨⟨by show s.at' ≤ s.at' + k + n; omega, by show s.at' + k + n ≤ b.length; omega⟩, ?_, ?_⟩
      · show ((b.drop (s.at' + k)).take n).length ≤ 60
        rw [List.length_take]; omega
      · rw [ht]
        show ((⟨s.at' + k + n, false⟩ : TSrc), (b.drop (s.at' + k)).take n) = (⟨s.at' + (k + n), false⟩, (b.drop (s.at' + k)).take n)
        rw [Nat.add_assoc]
    · rw [if_neg (fun hh => hc hh.2)] at ht
      rw [if_pos (by rw [Bool.false_or, decide_eq_true_eq]; simp only; omega)]
      exact ⟨h0, Nat.zero_le _, by rw [ht]; exact ⟨rfl, rfl⟩⟩
theorem one_case {b p r0 : Str} {s t : TSrc} {xv : Nat} (hcp : Cont p) (hr0 : b.drop s.at' = p ++ r0) (hpl2 : s.at' + p.length ≤ b.length) (ht : (oneR b ⟨s.at' + p.length, s.bad⟩).1 = t) (hxv : (oneR b ⟨s.at' + p.length, s.bad⟩).2 = xv) :
    (t = ⟨s.at' + p.length, true⟩ ∧ xv = 0 ∧ numA b s = none) ∨ ∃ c r, r0 = c :: r ∧ t = ⟨s.at' + p.length + 1, false⟩ ∧ xv = c.toNat ∧ s.bad = false := by
  cases hsb : s.bad with
  | true =>
    rw [hsb, oneR_bad rfl] at ht hxv
    exact .inl ⟨ht.symm, hxv.symm, numA_bad hsb⟩
  | false =>
    rw [hsb] at ht hxv
    rcases oneR_one (b := b) (s := ⟨s.at' + p.length, false⟩) rfl hpl2 with ⟨g1, g2⟩ | ⟨c, r, g1, g2⟩
    · rw [g2] at ht hxv
      rw [drop_at hr0] at g1
      exact .inl ⟨ht.symm, hxv.symm, by rw [numA_good hsb, hr0, g1, List.append_nil]; exact numP_end hcp⟩
    · rw [g2] at ht hxv
      rw [drop_at hr0] at g1
      exact .inr ⟨c, r, g1, ht.symm, hxv.symm, rfl⟩
theorem one_bounds {b p r0 : Str} {s t : TSrc} {xv : Nat} (hpl2 : s.at' + p.length ≤ b.length) (hcase : (t = ⟨s.at' + p.length, true⟩ ∧ xv = 0 ∧ numA b s = none) ∨ ∃ c r, r0 = c :: r ∧ t = ⟨s.at' + p.length + 1, false⟩ ∧ xv = c.toNat ∧ s.bad = false) (hr0 : b.drop s.at' = p ++ r0) : s.at' ≤ t.at' ∧ t.at' ≤ b.length := by
  rcases hcase with ⟨h1, _⟩ | ⟨c, r, h1, h2, _⟩
  · rw [h1]; exact ⟨by show s.at' ≤ s.at' + p.length; omega, hpl2⟩
  · have h9 := congrArg List.length hr0
    rw [h1, List.length_drop, List.length_append, List.length_cons] at h9
    rw [h2]
    exact ⟨by show s.at' ≤ s.at' + p.length + 1; omega, by show s.at' + p.length + 1 ≤ b.length; omega⟩
theorem num_case {b p r0 : Str} {s t : TSrc} {xv V : Nat} (hcp : Cont p) (hr0 : b.drop s.at' = p ++ r0) (hcase : (t = ⟨s.at' + p.length, true⟩ ∧ xv = 0 ∧ numA b s = none) ∨ ∃ c r, r0 = c :: r ∧ t = ⟨s.at' + p.length + 1, false⟩ ∧ xv = c.toNat ∧ s.bad = false) (hx : xv < 128) (hV : vval p + xv % 128 * 128 ^ p.length = V) (htb : s.at' ≤ t.at' ∧ t.at' ≤ b.length) :
    (((t.bad || decide ((1000000000 : Int) < (V : Int))) || (numB V != (b.take t.at').drop s.at')) = true → numA b s = none) ∧ (((t.bad || decide ((1000000000 : Int) < (V : Int))) || (numB V != (b.take t.at').drop s.at')) = false → NumOk b s (t, V)) := by
  rcases hcase with ⟨h1, _, h3⟩ | ⟨c, r, h1, h2, h3, h4⟩
  · exact ⟨fun _ => h3, fun h => by rw [h1] at h; simp at h⟩
  · have hd1 : b.drop s.at' = p ++ c :: r := by rw [hr0, h1]
    have hd2 := drop_more hd1
    have hVc : V = vval (p ++ [c]) := by rw [← hV, h3, vval_snoc]
    have hsl : (b.take t.at').drop s.at' = p ++ [c] := by
      rw [h2]
      show (b.take (s.at' + p.length + 1)).drop s.at' = _
      rw [show s.at' + p.length + 1 = s.at' + (p ++ [c]).length by simp; omega]
      exact take_drop_at hd2
    have hst := numP_stop (s := r) hcp (show c.toNat < 128 by omega)
    rw [← hd1, ← numA_good h4, ← hVc] at hst
    rw [hsl]
    have hbad : t.bad = false := by rw [h2]
    rw [hbad, Bool.false_or]
    refine ⟨fun h => ?_, fun h => ?_⟩
    · rw [hst, if_neg]
      intro hh
      rw [hh.2] at h
      simp at h; omega
    · simp only [Bool.or_eq_false_iff, decide_eq_false_iff_not, bne_eq_false_iff_eq] at h
      rw [if_pos ⟨by omega, h.2⟩] at hst
      exact ⟨htb, by show V ≤ _; omega, by rw [hst, h2]; rfl⟩
theorem num_five {b p r0 : Str} {s t : TSrc} {V : Nat} (hcp : Cont p) (hr0 : b.drop s.at' = p ++ r0) (h5 : p.length = 5) (hpb : p ≠ [] → s.bad = false) (ht : (⟨s.at' + p.length, s.bad⟩ : TSrc) = t) (hV : vval p = V) :
    (((t.bad || decide ((1000000000 : Int) < (V : Int))) || (numB V != (b.take t.at').drop s.at')) = true → numA b s = none) ∧ (((t.bad || decide ((1000000000 : Int) < (V : Int))) || (numB V != (b.take t.at').drop s.at')) = false → NumOk b s (t, V)) := by
  have hsb := hpb (by intro hc; rw [hc] at h5; cases h5)
  refine ⟨fun _ => by rw [numA_good hsb, hr0]; exact numP_long hcp (by omega), fun h => ?_⟩
  exfalso
  have hsl : (b.take t.at').drop s.at' = p := by rw [← ht]; exact take_drop_at hr0
  rw [hsl] at h
  simp only [Bool.or_eq_false_iff, bne_eq_false_iff_eq] at h
  exact cont_ne hcp V h.2
end Go.M
namespace Go.Proofs.YtmlmmgeadombbaaGreatDoor
open Go Go.AV Go.M
attribute [local irreducible] OpW OpA OpS AWP FSpec ESpec GSpec OpE RetOk RetOkG RvDen Le Ev GuardIs SrcIs Int.tmod Int.tdiv IntKind.wrap
theorem srcFail_own (q : Nat) (b : Str) (s : TSrc) : GSpec Tryz.prog 123 [AV.ptr q 0] [.box q 74 (srcC b s)] (fun _ : Unit => True) (fun _ => [.box q 74 (srcC b ⟨s.at', true⟩)]) (fun _ => AV.tup []) := by
  refine gspec_of_awp Tryz.func123 rfl Tryz.ntmps123 rfl ?_
  refine awp_region ?_
  refine sq_plain rfl rfl rfl (w_move rfl (ev_tmp rfl)) ?_
  refine sq_plain rfl rfl rfl (w_nilB rfl (ev_tmp rfl)) ?_
  refine sq_plain rfl rfl rfl (w_fldBn 2 rfl Tryz.underlying74 rfl Tryz.sizeOf4 (ev_tmp rfl) rfl) ?_
  refine sq_storeB1 0 rfl rfl rfl (ev_tmp rfl) ev_cb (as_bool _) rfl Tryz.sizeOf4 rfl ?_
  refine sq_nil ?_
  exact retG [0] (()) (trivial) rfl (by rfl) (resN rfl (by decide) rv_nil)
theorem srcTake_own (q : Nat) (b : Str) (s : TSrc) (n : Nat) (hs : s.at' ≤ b.length) (hb : b.length ≤ 4611686018427387904) (hn : n ≤ 4611686018427387903) : GSpec Tryz.prog 67 [AV.ptr q 0, AV.int n] [.box q 74 (srcC b s)] (fun _ : Unit => True) (fun _ => [.box q 74 (srcC b (takeR b s n).1)]) (fun _ => AV.str (takeR b s n).2) := by
  refine gspec_of_awp Tryz.func67 rfl Tryz.ntmps67 rfl ?_
  refine awp_seq ?_
  refine awp_region ?_
  refine sq_plain rfl rfl rfl (w_assign rfl (ev_cs' (l := []) rfl)) ?_
  refine sq_nil ?_
  refine awp_seq ?_
  refine awp_seq ?_
  refine awp_region_any (by kernel_rfl) (by kernel_rfl) rfl ?_
  refine ch_plain rfl rfl (w_move rfl (ev_tmp rfl)) ?_
  refine ch_plain rfl rfl (w_nilB rfl (ev_tmp rfl)) ?_
  refine ch_plain rfl rfl (w_fldBn 2 rfl Tryz.underlying74 rfl Tryz.sizeOf4 (ev_tmp rfl) rfl) ?_
  refine ch_plain rfl rfl (w_loadB1 0 rfl (ev_tmp rfl) rfl Tryz.isAgg4 rfl) ?_
  refine ch_plain rfl rfl (w_move rfl (ev_tmp rfl)) ?_
  refine ch_grd rfl (guard_f rfl rfl rfl) (fun hc => w_move rfl (ev_tmp rfl)) ?_
  refine ch_grd rfl (guard_f rfl rfl rfl) (fun hc => w_move rfl (ev_tmp rfl)) ?_
  refine ch_grd rfl (guard_f rfl rfl rfl) (fun hc => w_nilB rfl (ev_whn rfl hc)) ?_
  refine ch_grd rfl (guard_f rfl rfl rfl) (fun hc => w_fldBn 0 rfl Tryz.underlying74 rfl Tryz.sizeOf9 (ev_whn rfl hc) rfl) ?_
  refine ch_grd rfl (guard_f rfl rfl rfl) (fun hc => w_loadB1 0 rfl (ev_whn rfl hc) rfl Tryz.isAgg9 rfl) ?_
  refine ch_grd rfl (guard_f rfl rfl rfl) (fun hc => w_slen rfl Tryz.underlying9 (ev_whn rfl hc)) ?_
  refine ch_grd rfl (guard_f rfl rfl rfl) (fun hc => w_move rfl (ev_tmp rfl)) ?_
  refine ch_grd rfl (guard_f rfl rfl rfl) (fun hc => w_nilB rfl (ev_whn rfl hc)) ?_
  refine ch_grd rfl (guard_f rfl rfl rfl) (fun hc => w_fldBn 1 rfl Tryz.underlying74 rfl Tryz.sizeOf3 (ev_whn rfl hc) rfl) ?_
  refine ch_grd rfl (guard_f rfl rfl rfl) (fun hc => w_loadB1 0 rfl (ev_whn rfl hc) rfl Tryz.isAgg3 rfl) ?_
  refine ch_grd rfl (guard_f rfl rfl rfl) (fun hc => w_subi rfl (ev_whn rfl hc) (ev_whn rfl hc) (by first | omega | ((try simp only [List.length_map, List.length_take, List.length_cons, List.length_nil, chunks_len, szR] at *); omega) | (have hc2 := hc; simp only [Bool.and_eq_true, Bool.or_eq_true, Bool.or_eq_false_iff, Bool.and_eq_false_iff, Bool.not_eq_true', Bool.not_eq_false', decide_eq_true_eq, decide_eq_false_iff_not, beq_iff_eq, bne_iff_ne, List.length_map, List.length_take] at hc2; omega))) ?_
  refine ch_grd rfl (guard_f rfl rfl rfl) (fun hc => w_gtr rfl (ev_whn rfl hc) (ev_whn rfl hc)) ?_
  refine ch_plain rfl rfl (w_or rfl (ev_tmp rfl) (evif_w rfl)) ?_
  refine ch_nil ?_
  refine awp_cond (ev_tmp rfl) ?_ ?_
  · intro h22
    have he : takeR b s n = (⟨s.at', true⟩, []) := by unfold takeR; rw [if_pos h22]
    rw [he]
    refine awp_seq ?_
    refine awp_region ?_
    refine sq_plain rfl rfl rfl (w_move rfl (ev_tmp rfl)) ?_
    refine sq_callG [0] rfl rfl rfl rfl Tryz.call123 rfl (srcFail_own q b s) (evl_cons (ev_tmp rfl) evl_nil) rfl ?_
    intro x24 ok24
    refine sq_nil ?_
    refine awp_seq ?_
    refine awp_region ?_
    refine sq_plain rfl rfl rfl (w_assign rfl (ev_cs' (l := []) rfl)) ?_
    refine sq_nil ?_
    refine awp_ret ?_
    exact retG [0] (()) (trivial) rfl (by first | rfl | (rw [hbe]; rfl)) (resR rfl (rv_tmp' rfl (by first | rfl | (refine congrArg AV.str ?_; rw [show ((s.at' : Int) + (n : Int)).toNat = s.at' + n by omega, show ((s.at' : Int) + (n : Int) - (n : Int)).toNat = s.at' by omega, List.drop_take, Nat.add_sub_cancel_left]))))
  · intro h22
    have he : takeR b s n = (⟨s.at' + n, false⟩, (b.drop s.at').take n) := by unfold takeR; rw [if_neg (by rw [h22]; decide)]
    rw [he]
    simp only [Bool.or_eq_false_iff, decide_eq_false_iff_not] at h22
    obtain ⟨hb0, hl0⟩ := h22
    have hbe : s = ⟨s.at', false⟩ := by (cases s; simp_all)
    refine awp_skip ?_
    refine awp_seq ?_
    refine awp_region ?_
    refine sq_plain rfl rfl rfl (w_move rfl (ev_tmp rfl)) ?_
    refine sq_plain rfl rfl rfl (w_nilB rfl (ev_tmp rfl)) ?_
    refine sq_plain rfl rfl rfl (w_fldBn 1 rfl Tryz.underlying74 rfl Tryz.sizeOf3 (ev_tmp rfl) rfl) ?_
    refine sq_plain rfl rfl rfl (w_loadB1 0 rfl (ev_tmp rfl) rfl Tryz.isAgg3 rfl) ?_
    refine sq_plain rfl rfl rfl (w_move rfl (ev_tmp rfl)) ?_
    refine sq_plain rfl rfl rfl (w_addi rfl (ev_tmp rfl) (ev_tmp rfl) (by first | omega | ((try simp only [List.length_map, List.length_take, List.length_cons, List.length_nil, chunks_len, szR] at *); omega) | (have hc2 := hc; simp only [Bool.and_eq_true, Bool.or_eq_true, Bool.or_eq_false_iff, Bool.and_eq_false_iff, Bool.not_eq_true', Bool.not_eq_false', decide_eq_true_eq, decide_eq_false_iff_not, beq_iff_eq, bne_iff_ne, List.length_map, List.length_take] at hc2; omega))) ?_
    refine sq_plain rfl rfl rfl (w_nilB rfl (ev_tmp rfl)) ?_
    refine sq_plain rfl rfl rfl (w_fldBn 1 rfl Tryz.underlying74 rfl Tryz.sizeOf3 (ev_tmp rfl) rfl) ?_
    refine sq_storeB1 0 rfl rfl rfl (ev_tmp rfl) (ev_tmp rfl) (as_ik _ _) rfl Tryz.sizeOf3 rfl ?_
    refine sq_nil ?_
    refine awp_seq ?_
    refine awp_region_any (by kernel_rfl) (by kernel_rfl) rfl ?_
    refine ch_plain rfl rfl (w_move rfl (ev_tmp rfl)) ?_
    refine ch_plain rfl rfl (w_nilB rfl (ev_tmp rfl)) ?_
    refine ch_plain rfl rfl (w_fldBn 0 rfl Tryz.underlying74 rfl Tryz.sizeOf9 (ev_tmp rfl) rfl) ?_
    refine ch_plain rfl rfl (w_loadB1 0 rfl (ev_tmp rfl) rfl Tryz.isAgg9 rfl) ?_
    refine ch_plain rfl rfl (w_move rfl (ev_tmp rfl)) ?_
    refine ch_plain rfl rfl (w_nilB rfl (ev_tmp rfl)) ?_
    refine ch_plain rfl rfl (w_fldBn 1 rfl Tryz.underlying74 rfl Tryz.sizeOf3 (ev_tmp rfl) rfl) ?_
    refine ch_plain rfl rfl (w_loadB1 0 rfl (ev_tmp rfl) rfl Tryz.isAgg3 rfl) ?_
    refine ch_plain rfl rfl (w_move rfl (ev_tmp rfl)) ?_
    refine ch_plain rfl rfl (w_subi rfl (ev_tmp rfl) (ev_tmp rfl) (by first | omega | ((try simp only [List.length_map, List.length_take, List.length_cons, List.length_nil, chunks_len, szR] at *); omega) | (have hc2 := hc; simp only [Bool.and_eq_true, Bool.or_eq_true, Bool.or_eq_false_iff, Bool.and_eq_false_iff, Bool.not_eq_true', Bool.not_eq_false', decide_eq_true_eq, decide_eq_false_iff_not, beq_iff_eq, bne_iff_ne, List.length_map, List.length_take] at hc2; omega))) ?_
    refine ch_plain rfl rfl (w_move rfl (ev_tmp rfl)) ?_
    refine ch_plain rfl rfl (w_nilB rfl (ev_tmp rfl)) ?_
    refine ch_plain rfl rfl (w_fldBn 1 rfl Tryz.underlying74 rfl Tryz.sizeOf3 (ev_tmp rfl) rfl) ?_
    refine ch_plain rfl rfl (w_loadB1 0 rfl (ev_tmp rfl) rfl Tryz.isAgg3 rfl) ?_
    refine ch_plain rfl rfl (w_ssl_lohi rfl Tryz.underlying9 (ev_tmp rfl) (ev_tmp rfl) (ev_tmp rfl) (by first | omega | ((try simp only [List.length_map, List.length_take, List.length_cons, List.length_nil, chunks_len, szR] at *); omega) | (have hc2 := hc; simp only [Bool.and_eq_true, Bool.or_eq_true, Bool.or_eq_false_iff, Bool.and_eq_false_iff, Bool.not_eq_true', Bool.not_eq_false', decide_eq_true_eq, decide_eq_false_iff_not, beq_iff_eq, bne_iff_ne, List.length_map, List.length_take] at hc2; omega)) (by first | omega | ((try simp only [List.length_map, List.length_take, List.length_cons, List.length_nil, chunks_len, szR] at *); omega) | (have hc2 := hc; simp only [Bool.and_eq_true, Bool.or_eq_true, Bool.or_eq_false_iff, Bool.and_eq_false_iff, Bool.not_eq_true', Bool.not_eq_false', decide_eq_true_eq, decide_eq_false_iff_not, beq_iff_eq, bne_iff_ne, List.length_map, List.length_take] at hc2; omega)) (by first | omega | ((try simp only [List.length_map, List.length_take, List.length_cons, List.length_nil, chunks_len, szR] at *); omega) | (have hc2 := hc; simp only [Bool.and_eq_true, Bool.or_eq_true, Bool.or_eq_false_iff, Bool.and_eq_false_iff, Bool.not_eq_true', Bool.not_eq_false', decide_eq_true_eq, decide_eq_false_iff_not, beq_iff_eq, bne_iff_ne, List.length_map, List.length_take] at hc2; omega))) ?_
    refine ch_plain rfl rfl (w_assign rfl (ev_tmp rfl)) ?_
    refine ch_nil ?_
    refine awp_ret ?_
    exact retG [0] (()) (trivial) rfl (by first | rfl | (rw [hbe]; rfl)) (resR rfl (rv_tmp' rfl (by first | rfl | (refine congrArg AV.str ?_; rw [show ((s.at' : Int) + (n : Int)).toNat = s.at' + n by omega, show ((s.at' : Int) + (n : Int) - (n : Int)).toNat = s.at' by omega, List.drop_take, Nat.add_sub_cancel_left]))))
theorem srcNum_own (q : Nat) (b : Str) (s : TSrc) (hs : s.at' ≤ b.length) (hb : b.length ≤ 1048576) : GSpec Tryz.prog 66 [AV.ptr q 0] [.box q 74 (srcC b s)] (fun x : TSrc × Nat => NumOk b s x) (fun x => [.box q 74 (srcC b x.1)]) (fun x => AV.int x.2) := by
  refine gspec_of_awp Tryz.func66 rfl Tryz.ntmps66 rfl ?_
  refine awp_seq ?_
  refine awp_region ?_
  refine sq_plain rfl rfl rfl (w_assign rfl ev_ci) ?_
  refine sq_nil ?_
  refine awp_seq ?_
  refine awp_region ?_
  refine sq_plain rfl rfl rfl (w_move rfl (ev_tmp rfl)) ?_
  refine sq_plain rfl rfl rfl (w_nilB rfl (ev_tmp rfl)) ?_
  refine sq_plain rfl rfl rfl (w_fldBn 1 rfl Tryz.underlying74 rfl Tryz.sizeOf3 (ev_tmp rfl) rfl) ?_
  refine sq_plain rfl rfl rfl (w_loadB1 0 rfl (ev_tmp rfl) rfl Tryz.isAgg3 rfl) ?_
  refine sq_plain rfl rfl rfl (w_assign rfl (ev_tmp rfl)) ?_
  refine sq_nil ?_
  refine awp_seq ?_
  refine awp_region ?_
  refine sq_plain rfl rfl rfl (w_assign rfl ev_ci) ?_
  refine sq_plain rfl rfl rfl (w_assign rfl ev_ci) ?_
  refine sq_nil ?_
  refine awp_seq ?_
  refine awp_block ?_
  refine awp_loop_i [(0, _), (3, _)] _ (fun (p : Str) => Cont p ∧ (∃ r, b.drop s.at' = p ++ r) ∧ p.length ≤ 5 ∧ (p ≠ [] → s.bad = false)) (fun (p : Str) => [.box q 74 (srcC b ⟨s.at' + p.length, s.bad⟩)]) (fun (p : Str) => [(4, AV.int (vval p)), (5, AV.int ((128 ^ p.length : Nat) : Int))]) (fun (p : Str) => 6 - p.length) ([]) ?_ (le_eq (by rfl) ⟨rfl, rfl, rfl, rfl, trivial⟩) ?_
  · exact ⟨fun c hc => by simp at hc, ⟨_, rfl⟩, Nat.zero_le _, fun h => absurd rfl h⟩
  intro p hinv
  obtain ⟨hcp, ⟨r0, hr0⟩, hpl, hpb⟩ := hinv
  have hpd := drop_at hr0
  have hpl2 : s.at' + p.length ≤ b.length := by (have h9 := congrArg List.length hr0; rw [List.length_drop, List.length_append] at h9; omega)
  have hpow := pow_le5 hpl
  have hvl := vval_lt p
  have hinv : Cont p ∧ True := ⟨hcp, trivial⟩
  refine awp_block ?_
  refine awp_seq ?_
  refine awp_region ?_
  refine sq_plain rfl rfl rfl (w_move rfl (ev_tmp rfl)) ?_
  refine sq_callG [0] rfl rfl rfl rfl Tryz.call67 rfl (srcTake_own q b ⟨s.at' + p.length, s.bad⟩ 1 hpl2 (by omega) (by omega)) (evl_cons (ev_tmp rfl) (evl_cons ev_ci evl_nil)) rfl ?_
  intro x12 ok12
  refine sq_plain rfl rfl rfl (w_assign rfl (ev_tmp rfl)) ?_
  refine sq_nil ?_
  refine awp_seq ?_
  refine awp_seq ?_
  refine awp_region ?_
  refine sq_plain rfl rfl rfl (w_move rfl (ev_tmp rfl)) ?_
  refine sq_plain rfl rfl rfl (w_nilB rfl (ev_tmp rfl)) ?_
  refine sq_plain rfl rfl rfl (w_fldBn 2 rfl Tryz.underlying74 rfl Tryz.sizeOf4 (ev_tmp rfl) rfl) ?_
  refine sq_plain rfl rfl rfl (w_loadB1 0 rfl (ev_tmp rfl) rfl Tryz.isAgg4 rfl) ?_
  refine sq_nil ?_
  refine awp_cond (ev_tmp rfl) ?_ ?_
  · intro h16
    have hfail : (takeR b ⟨s.at' + p.length, s.bad⟩ 1) = (⟨s.at' + p.length, true⟩, []) ∧ numA b s = none := by (cases hsb : s.bad with | true => exact ⟨takeR_bad rfl, numA_bad hsb⟩ | false => (rcases takeR_one (b := b) (s := ⟨s.at' + p.length, false⟩) rfl hpl2 with ⟨g1, g2⟩ | ⟨c, r, _, g2⟩; (rw [hpd] at g1; exact ⟨g2, by rw [numA_good hsb, hr0, g1, List.append_nil]; exact numP_end hcp⟩); (rw [hsb, g2] at h16; cases h16)))
    rw [hfail.1]
    refine awp_seq ?_
    refine awp_region ?_
    refine sq_plain rfl rfl rfl (w_assign rfl ev_ci) ?_
    refine sq_nil ?_
    refine awp_ret ?_
    (refine retG [0] ((⟨s.at' + p.length, true⟩, 0)) ?_ rfl (by first | (dsimp only; rfl) | rfl) (resR rfl (rv_tmp' rfl (by rfl))); first | exact numOk_none ⟨by (dsimp only; omega), by (dsimp only; omega)⟩ rfl hfail.2 | exact numOk_none ⟨by (dsimp only; omega), by (dsimp only; omega)⟩ rfl hn | exact hgood)
  · intro h16
    obtain ⟨c, r, hr, htk, hsb⟩ : ∃ c r, r0 = c :: r ∧ takeR b ⟨s.at' + p.length, s.bad⟩ 1 = (⟨s.at' + p.length + 1, false⟩, [c]) ∧ s.bad = false := by (cases hsb : s.bad with | true => (rw [hsb, takeR_bad rfl] at h16; cases h16) | false => (rcases takeR_one (b := b) (s := ⟨s.at' + p.length, false⟩) rfl hpl2 with ⟨g1, g2⟩ | ⟨c, r, g1, g2⟩; (rw [hsb, g2] at h16; cases h16); (rw [hpd] at g1; exact ⟨c, r, g1, g2, rfl⟩)))
    rw [htk]
    have hd1 : b.drop s.at' = p ++ c :: r := by rw [hr0, hr]
    have hd2 := drop_more hd1
    have hlc : (p ++ [c]).length = p.length + 1 := by simp
    have hc128 : c.toNat % 128 ≤ 127 := by omega
    have hmb := mul_bd hc128 hpow
    have hv := vval_next p c
    have hnA := numA_good (b := b) hsb
    have hpl3 : s.at' + p.length + 1 ≤ b.length := by (have h9 := congrArg List.length hd1; rw [List.length_drop, List.length_append, List.length_cons] at h9; omega)
    refine awp_skip ?_
    refine awp_seq ?_
    refine awp_region ?_
    refine sq_plain rfl rfl rfl (w_move rfl (ev_tmp rfl)) ?_
    refine sq_plain rfl rfl rfl (w_move rfl (ev_tmp rfl)) ?_
    refine sq_plain rfl rfl rfl (w_sidx rfl Tryz.underlying9 (ev_tmp rfl) ev_ci (by omega) rfl) ?_
    refine sq_plain rfl rfl rfl (w_rem rfl (ev_tmp rfl) ev_ci (by decide)) ?_
    refine sq_plain rfl rfl rfl (w_conv rfl (by kernel_rfl) Tryz.underlying3 (ev_tmp rfl)) ?_
    rw [rem_byte]
    refine sq_plain rfl rfl rfl (w_move rfl (ev_tmp rfl)) ?_
    refine sq_plain rfl rfl rfl (w_muli rfl (ev_tmp rfl) (ev_tmp rfl) (by omega)) ?_
    refine sq_plain rfl rfl rfl (w_addi rfl (ev_tmp rfl) (ev_tmp rfl) (by first | omega | ((try simp only [List.length_map, List.length_take, List.length_cons, List.length_nil, chunks_len, szR] at *); omega) | (have hc2 := hc; simp only [Bool.and_eq_true, Bool.or_eq_true, Bool.or_eq_false_iff, Bool.and_eq_false_iff, Bool.not_eq_true', Bool.not_eq_false', decide_eq_true_eq, decide_eq_false_iff_not, beq_iff_eq, bne_iff_ne, List.length_map, List.length_take] at hc2; omega))) ?_
    refine sq_plain rfl rfl rfl (w_assign rfl (ev_tmp rfl)) ?_
    refine sq_nil ?_
    refine awp_seq ?_
    refine awp_seq ?_
    rw [hv]
    refine awp_region ?_
    refine sq_plain rfl rfl rfl (w_move rfl (ev_tmp rfl)) ?_
    refine sq_plain rfl rfl rfl (w_gtr rfl (ev_tmp rfl) ev_ci) ?_
    refine sq_plain rfl rfl rfl (w_move rfl (ev_tmp rfl)) ?_
    refine sq_grd rfl rfl (guard_f rfl rfl rfl) (fun hc => w_move rfl (ev_tmp rfl)) ?_
    refine sq_grd rfl rfl (guard_f rfl rfl rfl) (fun hc => w_nilB rfl (ev_whn rfl hc)) ?_
    refine sq_grd rfl rfl (guard_f rfl rfl rfl) (fun hc => w_fldBn 1 rfl Tryz.underlying74 rfl Tryz.sizeOf3 (ev_whn rfl hc) rfl) ?_
    refine sq_grd rfl rfl (guard_f rfl rfl rfl) (fun hc => w_loadB1 0 rfl (ev_whn rfl hc) rfl Tryz.isAgg3 rfl) ?_
    refine sq_grd rfl rfl (guard_f rfl rfl rfl) (fun hc => w_move rfl (ev_tmp rfl)) ?_
    refine sq_grd rfl rfl (guard_f rfl rfl rfl) (fun hc => w_subi rfl (ev_whn rfl hc) (ev_whn rfl hc) (by first | omega | ((try simp only [List.length_map, List.length_take, List.length_cons, List.length_nil, chunks_len, szR] at *); omega) | (have hc2 := hc; simp only [Bool.and_eq_true, Bool.or_eq_true, Bool.or_eq_false_iff, Bool.and_eq_false_iff, Bool.not_eq_true', Bool.not_eq_false', decide_eq_true_eq, decide_eq_false_iff_not, beq_iff_eq, bne_iff_ne, List.length_map, List.length_take] at hc2; omega))) ?_
    refine sq_grd rfl rfl (guard_f rfl rfl rfl) (fun hc => w_gtr rfl (ev_whn rfl hc) ev_ci) ?_
    refine sq_plain rfl rfl rfl (w_or rfl (ev_tmp rfl) (evif_w rfl)) ?_
    refine sq_nil ?_
    refine awp_cond (ev_tmp rfl) ?_ ?_
    · intro h35
      have hn : numA b s = none := by (rw [hnA, hd1]; exact numP_over hcp (by simp only [Bool.or_eq_true, decide_eq_true_eq] at h35; omega))
      refine awp_seq ?_
      refine awp_region ?_
      refine sq_plain rfl rfl rfl (w_move rfl (ev_tmp rfl)) ?_
      refine sq_callG [0] rfl rfl rfl rfl Tryz.call123 rfl (srcFail_own q b ⟨s.at' + p.length + 1, false⟩) (evl_cons (ev_tmp rfl) evl_nil) rfl ?_
      intro x37 ok37
      refine sq_nil ?_
      refine awp_seq ?_
      refine awp_region ?_
      refine sq_plain rfl rfl rfl (w_assign rfl ev_ci) ?_
      refine sq_nil ?_
      refine awp_ret ?_
      (refine retG [0] ((⟨s.at' + p.length + 1, true⟩, 0)) ?_ rfl (by first | (dsimp only; rfl) | rfl) (resR rfl (rv_tmp' rfl (by rfl))); first | exact numOk_none ⟨by (dsimp only; omega), by (dsimp only; omega)⟩ rfl hfail.2 | exact numOk_none ⟨by (dsimp only; omega), by (dsimp only; omega)⟩ rfl hn | exact hgood)
    · intro h35
      simp only [Bool.or_eq_false_iff, decide_eq_false_iff_not] at h35
      obtain ⟨h35a, h35b⟩ := h35
      have hle : vval (p ++ [c]) ≤ 1000000000 := by omega
      have hbe : s.bad = false := hsb
      refine awp_skip ?_
      refine awp_seq ?_
      refine awp_seq ?_
      refine awp_region ?_
      refine sq_plain rfl rfl rfl (w_move rfl (ev_tmp rfl)) ?_
      refine sq_plain rfl rfl rfl (w_sidx rfl Tryz.underlying9 (ev_tmp rfl) ev_ci (by omega) rfl) ?_
      refine sq_plain rfl rfl rfl (w_lss rfl (ev_tmp rfl) ev_ci) ?_
      refine sq_nil ?_
      refine awp_cond (ev_tmp rfl) ?_ ?_
      · intro h40
        have k40 := of_decide_eq_true h40; try simp only [List.length_map] at k40
        have hc8 : c.toNat < 128 := by omega
        have hsl : ((b.take ((s.at' + p.length + 1 : Nat) : Int).toNat).drop ((s.at' : Nat) : Int).toNat) = p ++ [c] := by (rw [Int.toNat_natCast, Int.toNat_natCast, show s.at' + p.length + 1 = s.at' + (p ++ [c]).length by simp; omega]; exact take_drop_at hd2)
        have hst := numP_stop (s := r) hcp hc8
        rw [← hd1, ← hnA] at hst
        refine awp_exit ?_
        refine awp_seq ?_
        refine awp_seq ?_
        refine awp_region_any (by kernel_rfl) (by kernel_rfl) rfl ?_
        refine ch_plain rfl rfl (w_move rfl (ev_tmp rfl)) ?_
        refine ch_plain rfl rfl (w_call rfl Tryz.call104 rfl (numBytesI_spec _ (by omega) (by omega)) (evl_cons (ev_tmp rfl) evl_nil)) ?_
        refine ch_plain rfl rfl (w_move rfl (ev_tmp rfl)) ?_
        refine ch_plain rfl rfl (w_nilB rfl (ev_tmp rfl)) ?_
        refine ch_plain rfl rfl (w_fldBn 0 rfl Tryz.underlying74 rfl Tryz.sizeOf9 (ev_tmp rfl) rfl) ?_
        refine ch_plain rfl rfl (w_loadB1 0 rfl (ev_tmp rfl) rfl Tryz.isAgg9 rfl) ?_
        refine ch_plain rfl rfl (w_move rfl (ev_tmp rfl)) ?_
        refine ch_plain rfl rfl (w_move rfl (ev_tmp rfl)) ?_
        refine ch_plain rfl rfl (w_nilB rfl (ev_tmp rfl)) ?_
        refine ch_plain rfl rfl (w_fldBn 1 rfl Tryz.underlying74 rfl Tryz.sizeOf3 (ev_tmp rfl) rfl) ?_
        refine ch_plain rfl rfl (w_loadB1 0 rfl (ev_tmp rfl) rfl Tryz.isAgg3 rfl) ?_
        refine ch_plain rfl rfl (w_ssl_lohi rfl Tryz.underlying9 (ev_tmp rfl) (ev_tmp rfl) (ev_tmp rfl) (by first | omega | ((try simp only [List.length_map, List.length_take, List.length_cons, List.length_nil, chunks_len, szR] at *); omega) | (have hc2 := hc; simp only [Bool.and_eq_true, Bool.or_eq_true, Bool.or_eq_false_iff, Bool.and_eq_false_iff, Bool.not_eq_true', Bool.not_eq_false', decide_eq_true_eq, decide_eq_false_iff_not, beq_iff_eq, bne_iff_ne, List.length_map, List.length_take] at hc2; omega)) (by first | omega | ((try simp only [List.length_map, List.length_take, List.length_cons, List.length_nil, chunks_len, szR] at *); omega) | (have hc2 := hc; simp only [Bool.and_eq_true, Bool.or_eq_true, Bool.or_eq_false_iff, Bool.and_eq_false_iff, Bool.not_eq_true', Bool.not_eq_false', decide_eq_true_eq, decide_eq_false_iff_not, beq_iff_eq, bne_iff_ne, List.length_map, List.length_take] at hc2; omega)) (by first | omega | ((try simp only [List.length_map, List.length_take, List.length_cons, List.length_nil, chunks_len, szR] at *); omega) | (have hc2 := hc; simp only [Bool.and_eq_true, Bool.or_eq_true, Bool.or_eq_false_iff, Bool.and_eq_false_iff, Bool.not_eq_true', Bool.not_eq_false', decide_eq_true_eq, decide_eq_false_iff_not, beq_iff_eq, bne_iff_ne, List.length_map, List.length_take] at hc2; omega))) ?_
        refine ch_plain rfl rfl (w_sneq rfl (ev_tmp rfl) (ev_tmp rfl)) ?_
        refine ch_nil ?_
        refine awp_cond (ev_tmp rfl) ?_ ?_
        · intro h55
          have hn : numA b s = none := by (rw [hst, if_neg]; intro hh; have h56 : (numB (vval (p ++ [c])) != (b.take ((s.at' + p.length + 1 : Nat) : Int).toNat).drop ((s.at' : Nat) : Int).toNat) = true := h55; rw [hsl, hh.2] at h56; simp at h56)
          refine awp_seq ?_
          refine awp_region ?_
          refine sq_plain rfl rfl rfl (w_move rfl (ev_tmp rfl)) ?_
          refine sq_callG [0] rfl rfl rfl rfl Tryz.call123 rfl (srcFail_own q b ⟨s.at' + p.length + 1, false⟩) (evl_cons (ev_tmp rfl) evl_nil) rfl ?_
          intro x57 ok57
          refine sq_nil ?_
          refine awp_seq ?_
          refine awp_region ?_
          refine sq_plain rfl rfl rfl (w_assign rfl ev_ci) ?_
          refine sq_nil ?_
          refine awp_ret ?_
          (refine retG [0] ((⟨s.at' + p.length + 1, true⟩, 0)) ?_ rfl (by first | (dsimp only; rfl) | rfl) (resR rfl (rv_tmp' rfl (by rfl))); first | exact numOk_none ⟨by (dsimp only; omega), by (dsimp only; omega)⟩ rfl hfail.2 | exact numOk_none ⟨by (dsimp only; omega), by (dsimp only; omega)⟩ rfl hn | exact hgood)
        · intro h55
          have hgood : NumOk b s (⟨s.at' + p.length + 1, false⟩, vval (p ++ [c])) := by (have h56 : (numB (vval (p ++ [c])) != (b.take ((s.at' + p.length + 1 : Nat) : Int).toNat).drop ((s.at' : Nat) : Int).toNat) = false := h55; rw [hsl] at h56; have h57 : numB (vval (p ++ [c])) = p ++ [c] := (by simpa using h56); rw [if_pos ⟨hle, h57⟩] at hst; exact ⟨⟨by show s.at' ≤ s.at' + p.length + 1; omega, hpl3⟩, hle, by rw [hst]; rfl⟩)
          refine awp_skip ?_
          refine awp_seq ?_
          refine awp_region ?_
          refine sq_plain rfl rfl rfl (w_move rfl (ev_tmp rfl)) ?_
          refine sq_plain rfl rfl rfl (w_assign rfl (ev_tmp rfl)) ?_
          refine sq_nil ?_
          refine awp_ret ?_
          (refine retG [0] ((⟨s.at' + p.length + 1, false⟩, vval (p ++ [c]))) ?_ rfl (by first | (dsimp only; rfl) | rfl) (resR rfl (rv_tmp' rfl (by rfl))); first | exact numOk_none ⟨by (dsimp only; omega), by (dsimp only; omega)⟩ rfl hfail.2 | exact numOk_none ⟨by (dsimp only; omega), by (dsimp only; omega)⟩ rfl hn | exact hgood)
      · intro h40
        have k40 := of_decide_eq_false h40; try simp only [List.length_map] at k40
        refine awp_skip ?_
        refine awp_region ?_
        refine sq_plain rfl rfl rfl (w_move rfl (ev_tmp rfl)) ?_
        refine sq_plain rfl rfl rfl (w_muli rfl (ev_tmp rfl) ev_ci (by omega)) ?_
        refine sq_plain rfl rfl rfl (w_assign rfl (ev_tmp rfl)) ?_
        refine sq_nil ?_
        refine blockN ?_
        refine round_end p (p ++ [c]) ?_ ?_ (le_eq (by first | rfl | (rw [hbe, hlc]; rfl)) ⟨rfl, congrArg (fun z => some (AV.int z)) (pow_next p c), rfl, rfl, trivial⟩)
        · exact ⟨cont_snoc hinv.1 (by omega), ⟨r, hd2⟩, by simp only [List.length_append, List.length_cons, List.length_nil]; omega, fun _ => hsb⟩
        · omega
theorem srcText_own (q : Nat) (b : Str) (s : TSrc) (hs : s.at' ≤ b.length) (hb : b.length ≤ 1048576) : GSpec Tryz.prog 69 [AV.ptr q 0] [.box q 74 (srcC b s)] (fun x : TSrc × Str => TextOk b s x) (fun x => [.box q 74 (srcC b x.1)]) (fun x => AV.str x.2) := by
  refine gspec_of_awp Tryz.func69 rfl Tryz.ntmps69 rfl ?_
  refine awp_seq ?_
  refine awp_region ?_
  refine sq_plain rfl rfl rfl (w_assign rfl (ev_cs' (l := []) rfl)) ?_
  refine sq_nil ?_
  refine awp_seq ?_
  refine awp_region ?_
  refine sq_plain rfl rfl rfl (w_move rfl (ev_tmp rfl)) ?_
  refine sq_callG [0] rfl rfl rfl rfl Tryz.call66 rfl (srcNum_own q b s hs hb) (evl_cons (ev_tmp rfl) evl_nil) rfl ?_
  intro x5 ok5
  refine sq_plain rfl rfl rfl (w_assign rfl (ev_tmp rfl)) ?_
  refine sq_nil ?_
  refine awp_seq ?_
  refine awp_seq ?_
  refine awp_region ?_
  refine sq_plain rfl rfl rfl (w_move rfl (ev_tmp rfl)) ?_
  refine sq_plain rfl rfl rfl (w_gtr rfl (ev_tmp rfl) ev_ci) ?_
  refine sq_nil ?_
  refine awp_cond (ev_tmp rfl) ?_ ?_
  · intro h7
    have k7 := of_decide_eq_true h7; try simp only [List.length_map] at k7
    have hok := textOk_big hs ok5 (by omega)
    refine awp_seq ?_
    refine awp_region ?_
    refine sq_plain rfl rfl rfl (w_move rfl (ev_tmp rfl)) ?_
    refine sq_callG [0] rfl rfl rfl rfl Tryz.call123 rfl (srcFail_own q b x5.1) (evl_cons (ev_tmp rfl) evl_nil) rfl ?_
    intro x9 ok9
    refine sq_nil ?_
    refine awp_seq ?_
    refine awp_region ?_
    refine sq_plain rfl rfl rfl (w_assign rfl (ev_cs' (l := []) rfl)) ?_
    refine sq_nil ?_
    refine awp_ret ?_
    (refine retG [0] ((⟨x5.1.at', true⟩, [])) ?_ rfl (by first | (dsimp only; rfl) | rfl) (resR rfl (rv_tmp' rfl (by rfl))); exact hok)
  · intro h7
    have k7 := of_decide_eq_false h7; try simp only [List.length_map] at k7
    have hok := textOk_take hs ok5 (by omega)
    refine awp_skip ?_
    refine awp_seq ?_
    refine awp_region ?_
    refine sq_plain rfl rfl rfl (w_move rfl (ev_tmp rfl)) ?_
    refine sq_plain rfl rfl rfl (w_move rfl (ev_tmp rfl)) ?_
    refine sq_callG [0] rfl rfl rfl rfl Tryz.call67 rfl (srcTake_own q b x5.1 x5.2 ok5.1.2 (by omega) (by have := ok5.2.1; omega)) (evl_cons (ev_tmp rfl) (evl_cons (ev_tmp rfl) evl_nil)) rfl ?_
    intro x12 ok12
    refine sq_plain rfl rfl rfl (w_assign rfl (ev_tmp rfl)) ?_
    refine sq_nil ?_
    refine awp_ret ?_
    (refine retG [0] (takeR b x5.1 x5.2) ?_ rfl (by first | (dsimp only; rfl) | rfl) (resR rfl (rv_tmp' rfl (by rfl))); exact hok)
theorem l1One_own (q : Nat) (b : Str) (s : TSrc) (hs : s.at' ≤ b.length) (hb : b.length ≤ 1048576) : GSpec Tryz.prog 82 [AV.ptr q 0] [.box q 88 (srcC b s)] (fun _ : Unit => True) (fun _ => [.box q 88 (srcC b (oneR b s).1)]) (fun _ => AV.int (oneR b s).2) := by
  refine gspec_of_awp Tryz.func82 rfl Tryz.ntmps82 rfl ?_
  refine awp_seq ?_
  refine awp_region ?_
  refine sq_plain rfl rfl rfl (w_assign rfl ev_ci) ?_
  refine sq_nil ?_
  refine awp_seq ?_
  refine awp_seq ?_
  refine awp_region_any (by kernel_rfl) (by kernel_rfl) rfl ?_
  refine ch_plain rfl rfl (w_move rfl (ev_tmp rfl)) ?_
  refine ch_plain rfl rfl (w_nilB rfl (ev_tmp rfl)) ?_
  refine ch_plain rfl rfl (w_fldBn 2 rfl Tryz.underlying88 rfl Tryz.sizeOf4 (ev_tmp rfl) rfl) ?_
  refine ch_plain rfl rfl (w_loadB1 0 rfl (ev_tmp rfl) rfl Tryz.isAgg4 rfl) ?_
  refine ch_plain rfl rfl (w_move rfl (ev_tmp rfl)) ?_
  refine ch_grd rfl (guard_f rfl rfl rfl) (fun hc => w_move rfl (ev_tmp rfl)) ?_
  refine ch_grd rfl (guard_f rfl rfl rfl) (fun hc => w_nilB rfl (ev_whn rfl hc)) ?_
  refine ch_grd rfl (guard_f rfl rfl rfl) (fun hc => w_fldBn 1 rfl Tryz.underlying88 rfl Tryz.sizeOf3 (ev_whn rfl hc) rfl) ?_
  refine ch_grd rfl (guard_f rfl rfl rfl) (fun hc => w_loadB1 0 rfl (ev_whn rfl hc) rfl Tryz.isAgg3 rfl) ?_
  refine ch_grd rfl (guard_f rfl rfl rfl) (fun hc => w_move rfl (ev_tmp rfl)) ?_
  refine ch_grd rfl (guard_f rfl rfl rfl) (fun hc => w_nilB rfl (ev_whn rfl hc)) ?_
  refine ch_grd rfl (guard_f rfl rfl rfl) (fun hc => w_fldBn 0 rfl Tryz.underlying88 rfl Tryz.sizeOf9 (ev_whn rfl hc) rfl) ?_
  refine ch_grd rfl (guard_f rfl rfl rfl) (fun hc => w_loadB1 0 rfl (ev_whn rfl hc) rfl Tryz.isAgg9 rfl) ?_
  refine ch_grd rfl (guard_f rfl rfl rfl) (fun hc => w_slen rfl Tryz.underlying9 (ev_whn rfl hc)) ?_
  refine ch_grd rfl (guard_f rfl rfl rfl) (fun hc => w_geq rfl (ev_whn rfl hc) (ev_whn rfl hc)) ?_
  refine ch_plain rfl rfl (w_or rfl (ev_tmp rfl) (evif_w rfl)) ?_
  refine ch_nil ?_
  refine awp_cond (ev_tmp rfl) ?_ ?_
  · intro h18
    have he : oneR b s = (⟨s.at', true⟩, 0) := by unfold oneR; rw [if_pos h18]
    rw [he]
    refine awp_seq ?_
    refine awp_region ?_
    refine sq_plain rfl rfl rfl (w_move rfl (ev_tmp rfl)) ?_
    refine sq_plain rfl rfl rfl (w_nilB rfl (ev_tmp rfl)) ?_
    refine sq_plain rfl rfl rfl (w_fldBn 2 rfl Tryz.underlying88 rfl Tryz.sizeOf4 (ev_tmp rfl) rfl) ?_
    refine sq_storeB1 0 rfl rfl rfl (ev_tmp rfl) ev_cb (as_bool _) rfl Tryz.sizeOf4 rfl ?_
    refine sq_nil ?_
    refine awp_seq ?_
    refine awp_region ?_
    refine sq_plain rfl rfl rfl (w_assign rfl ev_ci) ?_
    refine sq_nil ?_
    refine awp_ret ?_
    exact retG [0] (()) (trivial) rfl (by first | rfl | (rw [hbe]; rfl)) (resR rfl (rv_tmp' rfl (by first | rfl | (rw [hgd]; exact congrArg (fun z => AV.int z) hcw))))
  · intro h18
    have he : oneR b s = (⟨s.at' + 1, false⟩, (b.getD s.at' 0).toNat) := by unfold oneR; rw [if_neg (by rw [h18]; decide)]
    rw [he]
    simp only [Bool.or_eq_false_iff, decide_eq_false_iff_not] at h18
    obtain ⟨hb0, hl0⟩ := h18
    have hbe : s = ⟨s.at', false⟩ := by (cases s; simp_all)
    obtain ⟨c, hc⟩ := get_some (show s.at' < b.length by omega)
    have hgd : b.getD s.at' 0 = c := by (rw [List.getD_eq_getElem?_getD, hc]; rfl)
    have hcw : IntKind.i64.wrap (c.toNat : Int) = (c.toNat : Int) := wrap_nat (by have := c.toNat_lt; omega)
    refine awp_skip ?_
    refine awp_seq ?_
    refine awp_region ?_
    refine sq_plain rfl rfl rfl (w_move rfl (ev_tmp rfl)) ?_
    refine sq_plain rfl rfl rfl (w_nilB rfl (ev_tmp rfl)) ?_
    refine sq_plain rfl rfl rfl (w_fldBn 1 rfl Tryz.underlying88 rfl Tryz.sizeOf3 (ev_tmp rfl) rfl) ?_
    refine sq_plain rfl rfl rfl (w_loadB1 0 rfl (ev_tmp rfl) rfl Tryz.isAgg3 rfl) ?_
    refine sq_plain rfl rfl rfl (w_addi rfl (ev_tmp rfl) ev_ci (by first | omega | ((try simp only [List.length_map, List.length_take, List.length_cons, List.length_nil, chunks_len, szR] at *); omega) | (have hc2 := hc; simp only [Bool.and_eq_true, Bool.or_eq_true, Bool.or_eq_false_iff, Bool.and_eq_false_iff, Bool.not_eq_true', Bool.not_eq_false', decide_eq_true_eq, decide_eq_false_iff_not, beq_iff_eq, bne_iff_ne, List.length_map, List.length_take] at hc2; omega))) ?_
    refine sq_plain rfl rfl rfl (w_nilB rfl (ev_tmp rfl)) ?_
    refine sq_plain rfl rfl rfl (w_fldBn 1 rfl Tryz.underlying88 rfl Tryz.sizeOf3 (ev_tmp rfl) rfl) ?_
    refine sq_storeB1 0 rfl rfl rfl (ev_tmp rfl) (ev_tmp rfl) (as_ik _ _) rfl Tryz.sizeOf3 rfl ?_
    refine sq_nil ?_
    refine awp_seq ?_
    refine awp_region_any (by kernel_rfl) (by kernel_rfl) rfl ?_
    refine ch_plain rfl rfl (w_move rfl (ev_tmp rfl)) ?_
    refine ch_plain rfl rfl (w_nilB rfl (ev_tmp rfl)) ?_
    refine ch_plain rfl rfl (w_fldBn 0 rfl Tryz.underlying88 rfl Tryz.sizeOf9 (ev_tmp rfl) rfl) ?_
    refine ch_plain rfl rfl (w_loadB1 0 rfl (ev_tmp rfl) rfl Tryz.isAgg9 rfl) ?_
    refine ch_plain rfl rfl (w_move rfl (ev_tmp rfl)) ?_
    refine ch_plain rfl rfl (w_nilB rfl (ev_tmp rfl)) ?_
    refine ch_plain rfl rfl (w_fldBn 1 rfl Tryz.underlying88 rfl Tryz.sizeOf3 (ev_tmp rfl) rfl) ?_
    refine ch_plain rfl rfl (w_loadB1 0 rfl (ev_tmp rfl) rfl Tryz.isAgg3 rfl) ?_
    refine ch_plain rfl rfl (w_subi rfl (ev_tmp rfl) ev_ci (by first | omega | ((try simp only [List.length_map, List.length_take, List.length_cons, List.length_nil, chunks_len, szR] at *); omega) | (have hc2 := hc; simp only [Bool.and_eq_true, Bool.or_eq_true, Bool.or_eq_false_iff, Bool.and_eq_false_iff, Bool.not_eq_true', Bool.not_eq_false', decide_eq_true_eq, decide_eq_false_iff_not, beq_iff_eq, bne_iff_ne, List.length_map, List.length_take] at hc2; omega))) ?_
    refine ch_plain rfl rfl (w_sidx rfl Tryz.underlying9 (ev_tmp rfl) (ev_tmp rfl) (by omega) (by rw [show ((s.at' : Int) + 1 - 1).toNat = s.at' by omega]; exact hc)) ?_
    refine ch_plain rfl rfl (w_conv rfl (by kernel_rfl) Tryz.underlying3 (ev_tmp rfl)) ?_
    refine ch_plain rfl rfl (w_assign rfl (ev_tmp rfl)) ?_
    refine ch_nil ?_
    refine awp_ret ?_
    exact retG [0] (()) (trivial) rfl (by first | rfl | (rw [hbe]; rfl)) (resR rfl (rv_tmp' rfl (by first | rfl | (rw [hgd]; exact congrArg (fun z => AV.int z) hcw))))
theorem l1Num_own (q : Nat) (b : Str) (s : TSrc) (hs : s.at' ≤ b.length) (hb : b.length ≤ 1048576) : GSpec Tryz.prog 81 [AV.ptr q 0] [.box q 88 (srcC b s)] (fun x : TSrc × Nat => NumOk b s x) (fun x => [.box q 88 (srcC b x.1)]) (fun x => AV.int x.2) := by
  refine gspec_of_awp Tryz.func81 rfl Tryz.ntmps81 rfl ?_
  refine awp_seq ?_
  refine awp_region ?_
  refine sq_plain rfl rfl rfl (w_assign rfl ev_ci) ?_
  refine sq_nil ?_
  refine awp_seq ?_
  refine awp_region ?_
  refine sq_plain rfl rfl rfl (w_move rfl (ev_tmp rfl)) ?_
  refine sq_plain rfl rfl rfl (w_nilB rfl (ev_tmp rfl)) ?_
  refine sq_plain rfl rfl rfl (w_fldBn 1 rfl Tryz.underlying88 rfl Tryz.sizeOf3 (ev_tmp rfl) rfl) ?_
  refine sq_plain rfl rfl rfl (w_loadB1 0 rfl (ev_tmp rfl) rfl Tryz.isAgg3 rfl) ?_
  refine sq_plain rfl rfl rfl (w_assign rfl (ev_tmp rfl)) ?_
  refine sq_nil ?_
  refine awp_seq ?_
  refine awp_region ?_
  refine sq_plain rfl rfl rfl (w_assign rfl ev_ci) ?_
  refine sq_plain rfl rfl rfl (w_assign rfl ev_ci) ?_
  refine sq_nil ?_
  refine awp_seq ?_
  refine awp_seq ?_
  refine awp_region ?_
  refine sq_plain rfl rfl rfl (w_assign rfl ev_ci) ?_
  refine sq_nil ?_
  refine awp_block ?_
  refine awp_loop_i [(0, _), (2, _), (3, _)] _ (fun (p : Str) => Cont p ∧ (∃ r, b.drop s.at' = p ++ r) ∧ p.length ≤ 5 ∧ (p ≠ [] → s.bad = false)) (fun (p : Str) => [.box q 88 (srcC b ⟨s.at' + p.length, s.bad⟩)]) (fun (p : Str) => [(4, AV.int (vval p)), (5, AV.int ((128 ^ p.length : Nat) : Int)), (6, AV.int p.length)]) (fun (p : Str) => 6 - p.length) ([]) ?_ (le_eq (by rfl) ⟨rfl, rfl, rfl, rfl, rfl, rfl, trivial⟩) ?_
  · exact ⟨fun c hc => by simp at hc, ⟨_, rfl⟩, Nat.zero_le _, fun h => absurd rfl h⟩
  intro p hinv
  obtain ⟨hcp, ⟨r0, hr0⟩, hpl, hpb⟩ := hinv
  have hpd := drop_at hr0
  have hpl2 : s.at' + p.length ≤ b.length := by (have h9 := congrArg List.length hr0; rw [List.length_drop, List.length_append] at h9; omega)
  have hpow := pow_le5 hpl
  have hvl := vval_lt p
  refine awp_seq ?_
  refine awp_seq ?_
  refine awp_region ?_
  refine sq_plain rfl rfl rfl (w_move rfl (ev_tmp rfl)) ?_
  refine sq_plain rfl rfl rfl (w_lss rfl (ev_tmp rfl) ev_ci) ?_
  refine sq_nil ?_
  refine awp_cond (ev_tmp rfl) ?_ ?_
  · intro h13
    have k13 := of_decide_eq_true h13; try simp only [List.length_map] at k13
    refine awp_skip ?_
    refine awp_seq ?_
    refine awp_block ?_
    refine awp_seq ?_
    refine awp_region ?_
    refine sq_plain rfl rfl rfl (w_move rfl (ev_tmp rfl)) ?_
    refine sq_callG [0] rfl rfl rfl rfl Tryz.call82 rfl (l1One_own q b ⟨s.at' + p.length, s.bad⟩ hpl2 hb) (evl_cons (ev_tmp rfl) evl_nil) rfl ?_
    intro x17 ok17
    obtain ⟨t, ht⟩ : ∃ t, (oneR b ⟨s.at' + p.length, s.bad⟩).1 = t := ⟨_, rfl⟩
    obtain ⟨xv, hxv⟩ : ∃ xv, (oneR b ⟨s.at' + p.length, s.bad⟩).2 = xv := ⟨_, rfl⟩
    rw [ht, hxv]
    have hcase := one_case (p := p) hcp hr0 hpl2 ht hxv
    have htm := tmod_nat xv 128
    rw [show ((128 : Nat) : Int) = 128 from rfl] at htm
    have hmb := mul_bd (show xv % 128 ≤ 127 by omega) hpow
    obtain ⟨V, hV⟩ : ∃ V, vval p + xv % 128 * 128 ^ p.length = V := ⟨_, rfl⟩
    have hV1 : ((vval p : Nat) : Int) + ((xv % 128 : Nat) : Int) * ((128 ^ p.length : Nat) : Int) = ((V : Nat) : Int) := by (rw [← hV]; simp)
    have htb : s.at' ≤ t.at' ∧ t.at' ≤ b.length := one_bounds hpl2 hcase hr0
    refine sq_plain rfl rfl rfl (w_assign rfl (ev_tmp rfl)) ?_
    refine sq_nil ?_
    refine awp_seq ?_
    refine awp_region ?_
    refine sq_plain rfl rfl rfl (w_move rfl (ev_tmp rfl)) ?_
    refine sq_plain rfl rfl rfl (w_move rfl (ev_tmp rfl)) ?_
    refine sq_plain rfl rfl rfl (w_rem rfl (ev_tmp rfl) ev_ci (by decide)) ?_
    rw [htm]
    refine sq_plain rfl rfl rfl (w_move rfl (ev_tmp rfl)) ?_
    refine sq_plain rfl rfl rfl (w_muli rfl (ev_tmp rfl) (ev_tmp rfl) (by omega)) ?_
    refine sq_plain rfl rfl rfl (w_addi rfl (ev_tmp rfl) (ev_tmp rfl) (by omega)) ?_
    refine sq_plain rfl rfl rfl (w_assign rfl (ev_tmp rfl)) ?_
    refine sq_nil ?_
    refine awp_seq ?_
    rw [hV1]
    refine awp_region ?_
    refine sq_plain rfl rfl rfl (w_move rfl (ev_tmp rfl)) ?_
    refine sq_plain rfl rfl rfl (w_muli rfl (ev_tmp rfl) ev_ci (by omega)) ?_
    refine sq_plain rfl rfl rfl (w_assign rfl (ev_tmp rfl)) ?_
    refine sq_nil ?_
    refine awp_seq ?_
    refine awp_region ?_
    refine sq_plain rfl rfl rfl (w_move rfl (ev_tmp rfl)) ?_
    refine sq_plain rfl rfl rfl (w_lss rfl (ev_tmp rfl) ev_ci) ?_
    refine sq_nil ?_
    refine awp_cond (ev_tmp rfl) ?_ ?_
    · intro h27
      have k27 := of_decide_eq_true h27; try simp only [List.length_map] at k27
      obtain ⟨hk1, hk2⟩ := num_case hcp hr0 hcase (by omega) hV htb
      refine awp_exit ?_
      refine awp_seq ?_
      refine awp_seq ?_
      refine awp_region_any (by kernel_rfl) (by kernel_rfl) rfl ?_
      refine ch_plain rfl rfl (w_move rfl (ev_tmp rfl)) ?_
      refine ch_plain rfl rfl (w_nilB rfl (ev_tmp rfl)) ?_
      refine ch_plain rfl rfl (w_fldBn 2 rfl Tryz.underlying88 rfl Tryz.sizeOf4 (ev_tmp rfl) rfl) ?_
      refine ch_plain rfl rfl (w_loadB1 0 rfl (ev_tmp rfl) rfl Tryz.isAgg4 rfl) ?_
      refine ch_plain rfl rfl (w_move rfl (ev_tmp rfl)) ?_
      refine ch_grd rfl (guard_f rfl rfl rfl) (fun hc => w_move rfl (ev_tmp rfl)) ?_
      refine ch_grd rfl (guard_f rfl rfl rfl) (fun hc => w_gtr rfl (ev_whn rfl hc) ev_ci) ?_
      refine ch_plain rfl rfl (w_or rfl (ev_tmp rfl) (evif_w rfl)) ?_
      refine ch_plain rfl rfl (w_move rfl (ev_tmp rfl)) ?_
      refine ch_grd rfl (guard_f rfl rfl rfl) (fun hc => w_move rfl (ev_tmp rfl)) ?_
      refine ch_grd rfl (guard_f rfl rfl rfl) (fun hc => w_call rfl Tryz.call113 rfl (numBS_spec _ (by omega) (by omega)) (evl_cons (ev_whn rfl hc) evl_nil)) ?_
      refine ch_grd rfl (guard_f rfl rfl rfl) (fun hc => w_move rfl (ev_tmp rfl)) ?_
      refine ch_grd rfl (guard_f rfl rfl rfl) (fun hc => w_nilB rfl (ev_whn rfl hc)) ?_
      refine ch_grd rfl (guard_f rfl rfl rfl) (fun hc => w_fldBn 0 rfl Tryz.underlying88 rfl Tryz.sizeOf9 (ev_whn rfl hc) rfl) ?_
      refine ch_grd rfl (guard_f rfl rfl rfl) (fun hc => w_loadB1 0 rfl (ev_whn rfl hc) rfl Tryz.isAgg9 rfl) ?_
      refine ch_grd rfl (guard_f rfl rfl rfl) (fun hc => w_move rfl (ev_tmp rfl)) ?_
      refine ch_grd rfl (guard_f rfl rfl rfl) (fun hc => w_move rfl (ev_tmp rfl)) ?_
      refine ch_grd rfl (guard_f rfl rfl rfl) (fun hc => w_nilB rfl (ev_whn rfl hc)) ?_
      refine ch_grd rfl (guard_f rfl rfl rfl) (fun hc => w_fldBn 1 rfl Tryz.underlying88 rfl Tryz.sizeOf3 (ev_whn rfl hc) rfl) ?_
      refine ch_grd rfl (guard_f rfl rfl rfl) (fun hc => w_loadB1 0 rfl (ev_whn rfl hc) rfl Tryz.isAgg3 rfl) ?_
      refine ch_grd rfl (guard_f rfl rfl rfl) (fun hc => w_ssl_lohi rfl Tryz.underlying9 (ev_whn rfl hc) (ev_whn rfl hc) (ev_whn rfl hc) (by first | omega | ((try simp only [List.length_map, List.length_take, List.length_cons, List.length_nil, chunks_len, szR] at *); omega) | (have hc2 := hc; simp only [Bool.and_eq_true, Bool.or_eq_true, Bool.or_eq_false_iff, Bool.and_eq_false_iff, Bool.not_eq_true', Bool.not_eq_false', decide_eq_true_eq, decide_eq_false_iff_not, beq_iff_eq, bne_iff_ne, List.length_map, List.length_take] at hc2; omega)) (by first | omega | ((try simp only [List.length_map, List.length_take, List.length_cons, List.length_nil, chunks_len, szR] at *); omega) | (have hc2 := hc; simp only [Bool.and_eq_true, Bool.or_eq_true, Bool.or_eq_false_iff, Bool.and_eq_false_iff, Bool.not_eq_true', Bool.not_eq_false', decide_eq_true_eq, decide_eq_false_iff_not, beq_iff_eq, bne_iff_ne, List.length_map, List.length_take] at hc2; omega)) (by first | omega | ((try simp only [List.length_map, List.length_take, List.length_cons, List.length_nil, chunks_len, szR] at *); omega) | (have hc2 := hc; simp only [Bool.and_eq_true, Bool.or_eq_true, Bool.or_eq_false_iff, Bool.and_eq_false_iff, Bool.not_eq_true', Bool.not_eq_false', decide_eq_true_eq, decide_eq_false_iff_not, beq_iff_eq, bne_iff_ne, List.length_map, List.length_take] at hc2; omega))) ?_
      refine ch_grd rfl (guard_f rfl rfl rfl) (fun hc => w_sneq rfl (ev_whn rfl hc) (ev_whn rfl hc)) ?_
      refine ch_plain rfl rfl (w_or rfl (ev_tmp rfl) (evif_w rfl)) ?_
      refine ch_nil ?_
      refine awp_cond (ev_tmp rfl) ?_ ?_
      · intro h50
        have hn := hk1 h50
        refine awp_seq ?_
        refine awp_region ?_
        refine sq_plain rfl rfl rfl (w_move rfl (ev_tmp rfl)) ?_
        refine sq_plain rfl rfl rfl (w_nilB rfl (ev_tmp rfl)) ?_
        refine sq_plain rfl rfl rfl (w_fldBn 2 rfl Tryz.underlying88 rfl Tryz.sizeOf4 (ev_tmp rfl) rfl) ?_
        refine sq_storeB1 0 rfl rfl rfl (ev_tmp rfl) ev_cb (as_bool _) rfl Tryz.sizeOf4 rfl ?_
        refine sq_nil ?_
        refine awp_seq ?_
        refine awp_region ?_
        refine sq_plain rfl rfl rfl (w_assign rfl ev_ci) ?_
        refine sq_nil ?_
        refine awp_ret ?_
        (refine retG [0] ((⟨t.at', true⟩, 0)) ?_ rfl (by first | (dsimp only; rfl) | rfl) (resR rfl (rv_tmp' rfl (by rfl))); first | exact numOk_none ⟨by (dsimp only; omega), by (dsimp only; omega)⟩ rfl hn | exact hgood)
      · intro h50
        have hgood := hk2 h50
        refine awp_skip ?_
        refine awp_seq ?_
        refine awp_region ?_
        refine sq_plain rfl rfl rfl (w_move rfl (ev_tmp rfl)) ?_
        refine sq_plain rfl rfl rfl (w_assign rfl (ev_tmp rfl)) ?_
        refine sq_nil ?_
        refine awp_ret ?_
        (refine retG [0] ((t, V)) ?_ rfl (by first | (dsimp only; rfl) | rfl) (resR rfl (rv_tmp' rfl (by rfl))); first | exact numOk_none ⟨by (dsimp only; omega), by (dsimp only; omega)⟩ rfl hn | exact hgood)
    · intro h27
      have k27 := of_decide_eq_false h27; try simp only [List.length_map] at k27
      obtain ⟨c, r, hrr, hts, hxc, hsb⟩ : ∃ c r, r0 = c :: r ∧ t = ⟨s.at' + p.length + 1, false⟩ ∧ xv = c.toNat ∧ s.bad = false := by (rcases hcase with h9 | h9; (exfalso; have := h9.2.1; omega); exact h9)
      have hd2 := drop_more (by rw [hr0, hrr] : b.drop s.at' = p ++ c :: r)
      have hst : t = ⟨s.at' + (p ++ [c]).length, s.bad⟩ := by (rw [hts, hsb, List.length_append]; rfl)
      have hV2 : ((V : Nat) : Int) = ((vval (p ++ [c]) : Nat) : Int) := by rw [← hV, hxc, vval_snoc]
      have hlen2 : ((p.length : Nat) : Int) + 1 = (((p ++ [c]).length : Nat) : Int) := by simp
      refine awp_skip ?_
      refine awp_region ?_
      refine sq_plain rfl rfl rfl (w_move rfl (ev_tmp rfl)) ?_
      refine sq_plain rfl rfl rfl (w_addi rfl (ev_tmp rfl) ev_ci (by first | omega | ((try simp only [List.length_map, List.length_take, List.length_cons, List.length_nil, chunks_len, szR] at *); omega) | (have hc2 := hc; simp only [Bool.and_eq_true, Bool.or_eq_true, Bool.or_eq_false_iff, Bool.and_eq_false_iff, Bool.not_eq_true', Bool.not_eq_false', decide_eq_true_eq, decide_eq_false_iff_not, beq_iff_eq, bne_iff_ne, List.length_map, List.length_take] at hc2; omega))) ?_
      refine sq_plain rfl rfl rfl (w_assign rfl (ev_tmp rfl)) ?_
      refine sq_nil ?_
      refine round_end p (p ++ [c]) ?_ ?_ (le_eq (by first | rfl | (rw [hst]; rfl)) ⟨congrArg (fun z => some (AV.int z)) hV2, congrArg (fun z => some (AV.int z)) (pow_next p c), congrArg (fun z => some (AV.int z)) hlen2, rfl, rfl, rfl, trivial⟩)
      · exact ⟨cont_snoc hcp (by omega), ⟨r, hd2⟩, by simp only [List.length_append, List.length_cons, List.length_nil]; omega, fun _ => hsb⟩
      · simp only [List.length_append, List.length_cons, List.length_nil]; omega
  · intro h13
    have k13 := of_decide_eq_false h13; try simp only [List.length_map] at k13
    obtain ⟨t, ht⟩ : ∃ t, (⟨s.at' + p.length, s.bad⟩ : TSrc) = t := ⟨_, rfl⟩
    obtain ⟨V, hV⟩ : ∃ V, vval p = V := ⟨_, rfl⟩
    rw [ht, hV]
    have htb : s.at' ≤ t.at' ∧ t.at' ≤ b.length := by (rw [← ht]; exact ⟨by show s.at' ≤ s.at' + p.length; omega, hpl2⟩)
    obtain ⟨hk1, hk2⟩ := num_five hcp hr0 (show p.length = 5 by omega) hpb ht hV
    have hmb := mul_bd (show 0 ≤ 127 by omega) hpow
    refine awp_exit ?_
    refine awp_seq ?_
    refine awp_seq ?_
    refine awp_region_any (by kernel_rfl) (by kernel_rfl) rfl ?_
    refine ch_plain rfl rfl (w_move rfl (ev_tmp rfl)) ?_
    refine ch_plain rfl rfl (w_nilB rfl (ev_tmp rfl)) ?_
    refine ch_plain rfl rfl (w_fldBn 2 rfl Tryz.underlying88 rfl Tryz.sizeOf4 (ev_tmp rfl) rfl) ?_
    refine ch_plain rfl rfl (w_loadB1 0 rfl (ev_tmp rfl) rfl Tryz.isAgg4 rfl) ?_
    refine ch_plain rfl rfl (w_move rfl (ev_tmp rfl)) ?_
    refine ch_grd rfl (guard_f rfl rfl rfl) (fun hc => w_move rfl (ev_tmp rfl)) ?_
    refine ch_grd rfl (guard_f rfl rfl rfl) (fun hc => w_gtr rfl (ev_whn rfl hc) ev_ci) ?_
    refine ch_plain rfl rfl (w_or rfl (ev_tmp rfl) (evif_w rfl)) ?_
    refine ch_plain rfl rfl (w_move rfl (ev_tmp rfl)) ?_
    refine ch_grd rfl (guard_f rfl rfl rfl) (fun hc => w_move rfl (ev_tmp rfl)) ?_
    refine ch_grd rfl (guard_f rfl rfl rfl) (fun hc => w_call rfl Tryz.call113 rfl (numBS_spec _ (by omega) (by omega)) (evl_cons (ev_whn rfl hc) evl_nil)) ?_
    refine ch_grd rfl (guard_f rfl rfl rfl) (fun hc => w_move rfl (ev_tmp rfl)) ?_
    refine ch_grd rfl (guard_f rfl rfl rfl) (fun hc => w_nilB rfl (ev_whn rfl hc)) ?_
    refine ch_grd rfl (guard_f rfl rfl rfl) (fun hc => w_fldBn 0 rfl Tryz.underlying88 rfl Tryz.sizeOf9 (ev_whn rfl hc) rfl) ?_
    refine ch_grd rfl (guard_f rfl rfl rfl) (fun hc => w_loadB1 0 rfl (ev_whn rfl hc) rfl Tryz.isAgg9 rfl) ?_
    refine ch_grd rfl (guard_f rfl rfl rfl) (fun hc => w_move rfl (ev_tmp rfl)) ?_
    refine ch_grd rfl (guard_f rfl rfl rfl) (fun hc => w_move rfl (ev_tmp rfl)) ?_
    refine ch_grd rfl (guard_f rfl rfl rfl) (fun hc => w_nilB rfl (ev_whn rfl hc)) ?_
    refine ch_grd rfl (guard_f rfl rfl rfl) (fun hc => w_fldBn 1 rfl Tryz.underlying88 rfl Tryz.sizeOf3 (ev_whn rfl hc) rfl) ?_
    refine ch_grd rfl (guard_f rfl rfl rfl) (fun hc => w_loadB1 0 rfl (ev_whn rfl hc) rfl Tryz.isAgg3 rfl) ?_
    refine ch_grd rfl (guard_f rfl rfl rfl) (fun hc => w_ssl_lohi rfl Tryz.underlying9 (ev_whn rfl hc) (ev_whn rfl hc) (ev_whn rfl hc) (by first | omega | ((try simp only [List.length_map, List.length_take, List.length_cons, List.length_nil, chunks_len, szR] at *); omega) | (have hc2 := hc; simp only [Bool.and_eq_true, Bool.or_eq_true, Bool.or_eq_false_iff, Bool.and_eq_false_iff, Bool.not_eq_true', Bool.not_eq_false', decide_eq_true_eq, decide_eq_false_iff_not, beq_iff_eq, bne_iff_ne, List.length_map, List.length_take] at hc2; omega)) (by first | omega | ((try simp only [List.length_map, List.length_take, List.length_cons, List.length_nil, chunks_len, szR] at *); omega) | (have hc2 := hc; simp only [Bool.and_eq_true, Bool.or_eq_true, Bool.or_eq_false_iff, Bool.and_eq_false_iff, Bool.not_eq_true', Bool.not_eq_false', decide_eq_true_eq, decide_eq_false_iff_not, beq_iff_eq, bne_iff_ne, List.length_map, List.length_take] at hc2; omega)) (by first | omega | ((try simp only [List.length_map, List.length_take, List.length_cons, List.length_nil, chunks_len, szR] at *); omega) | (have hc2 := hc; simp only [Bool.and_eq_true, Bool.or_eq_true, Bool.or_eq_false_iff, Bool.and_eq_false_iff, Bool.not_eq_true', Bool.not_eq_false', decide_eq_true_eq, decide_eq_false_iff_not, beq_iff_eq, bne_iff_ne, List.length_map, List.length_take] at hc2; omega))) ?_
    refine ch_grd rfl (guard_f rfl rfl rfl) (fun hc => w_sneq rfl (ev_whn rfl hc) (ev_whn rfl hc)) ?_
    refine ch_plain rfl rfl (w_or rfl (ev_tmp rfl) (evif_w rfl)) ?_
    refine ch_nil ?_
    refine awp_cond (ev_tmp rfl) ?_ ?_
    · intro h50
      have hn := hk1 h50
      refine awp_seq ?_
      refine awp_region ?_
      refine sq_plain rfl rfl rfl (w_move rfl (ev_tmp rfl)) ?_
      refine sq_plain rfl rfl rfl (w_nilB rfl (ev_tmp rfl)) ?_
      refine sq_plain rfl rfl rfl (w_fldBn 2 rfl Tryz.underlying88 rfl Tryz.sizeOf4 (ev_tmp rfl) rfl) ?_
      refine sq_storeB1 0 rfl rfl rfl (ev_tmp rfl) ev_cb (as_bool _) rfl Tryz.sizeOf4 rfl ?_
      refine sq_nil ?_
      refine awp_seq ?_
      refine awp_region ?_
      refine sq_plain rfl rfl rfl (w_assign rfl ev_ci) ?_
      refine sq_nil ?_
      refine awp_ret ?_
      (refine retG [0] ((⟨t.at', true⟩, 0)) ?_ rfl (by first | (dsimp only; rfl) | rfl) (resR rfl (rv_tmp' rfl (by rfl))); first | exact numOk_none ⟨by (dsimp only; omega), by (dsimp only; omega)⟩ rfl hn | exact hgood)
    · intro h50
      have hgood := hk2 h50
      refine awp_skip ?_
      refine awp_seq ?_
      refine awp_region ?_
      refine sq_plain rfl rfl rfl (w_move rfl (ev_tmp rfl)) ?_
      refine sq_plain rfl rfl rfl (w_assign rfl (ev_tmp rfl)) ?_
      refine sq_nil ?_
      refine awp_ret ?_
      (refine retG [0] ((t, V)) ?_ rfl (by first | (dsimp only; rfl) | rfl) (resR rfl (rv_tmp' rfl (by rfl))); first | exact numOk_none ⟨by (dsimp only; omega), by (dsimp only; omega)⟩ rfl hn | exact hgood)
end Go.Proofs.YtmlmmgeadombbaaGreatDoor

set_option linter.unusedVariables false
set_option linter.unusedSimpArgs false
set_option maxRecDepth 100000
namespace Go.M
open Go.AV
theorem textB_len {t : Str} (h : t.length ≤ 4611686018427387904) : (textB t).length ≤ 9 + t.length := by
  unfold textB; rw [List.length_append]; have := numB_len9 h; omega
theorem flatB_len : ∀ {l : List Str}, (∀ t ∈ l, t.length ≤ 1048576) → ((l.map textB).flatten).length ≤ 10 * sizeL (fun x : Str => x.length) l
  | [], _ => Nat.zero_le _
  | t :: l, h => by
    have h1 := flatB_len (l := l) fun x hx => h x (List.mem_cons_of_mem _ hx)
    have h2 := h t List.mem_cons_self
    have h3 := textB_len (t := t) (by omega)
    unfold sizeL at h1 ⊢
    simp only [List.map_cons, List.flatten_cons, List.length_append, List.length_cons, List.sum_cons] at h1 ⊢
    omega
theorem takeB_next {l : List Str} {i : Nat} {x : Str} (h : l[i]? = some x) : ((l.take (i + 1)).map textB).flatten = ((l.take i).map textB).flatten ++ textB x := by
  rw [List.take_add_one, h]; simp
theorem sizeT_take {l : List Str} (i : Nat) : sizeL (fun x : Str => x.length) (l.take i) ≤ sizeL (fun x : Str => x.length) l := by
  have h : l = l.take i ++ l.drop i := (List.take_append_drop i l).symm
  unfold sizeL
  conv => rhs; rw [h]
  simp only [List.length_append, List.map_append, List.sum_append]
  omega
theorem sizeT_mem {l : List Str} {x : Str} (h : x ∈ l) : x.length ≤ sizeL (fun x : Str => x.length) l := sizeL_mem (f := fun x : Str => x.length) h
theorem textsB_len {l : List Str} (h : sizeL (fun x : Str => x.length) l ≤ 1048576) (i : Nat) : (numB l.length ++ ((l.take i).map textB).flatten).length ≤ 9 + 10485760 := by
  have h1 := sizeL_len (f := fun x : Str => x.length) (l := l)
  have h2 := numB_len9 (n := l.length) (by omega)
  have h3 := flatB_len (l := l.take i) fun t ht => Nat.le_trans (sizeT_mem (List.mem_of_mem_take ht)) h
  have h4 := sizeT_take (l := l) i
  rw [List.length_append]; omega
end Go.M
namespace Go.Proofs.YtmlmmgeadombbaaGreatDoor
open Go Go.AV Go.M
attribute [local irreducible] OpW OpA OpS AWP FSpec ESpec GSpec OpE RetOk RetOkG RvDen Le Ev GuardIs SrcIs Int.tmod Int.tdiv IntKind.wrap
theorem textBytes_spec (s : Str) (hs : s.length ≤ 1048576) : FSpec Tryz.prog 107 [AV.str s] (AV.str (textB s)) := by
  have hl := numB_len9 (n := s.length) (by omega)
  refine spec_of_awp Tryz.func107 rfl Tryz.ntmps107 rfl ?_
  refine awp_seq ?_
  refine awp_region ?_
  refine sq_plain rfl rfl rfl (w_assign rfl (ev_cs' (l := []) rfl)) ?_
  refine sq_nil ?_
  refine awp_seq ?_
  refine awp_region ?_
  refine sq_plain rfl rfl rfl (w_move rfl (ev_tmp rfl)) ?_
  refine sq_plain rfl rfl rfl (w_slen rfl Tryz.underlying9 (ev_tmp rfl)) ?_
  refine sq_plain rfl rfl rfl (w_call rfl Tryz.call104 rfl (numBytesI_spec _ (by omega) (by omega)) (evl_cons (ev_tmp rfl) evl_nil)) ?_
  refine sq_plain rfl rfl rfl (w_move rfl (ev_tmp rfl)) ?_
  refine sq_plain rfl rfl rfl (w_cat rfl (ev_tmp rfl) (ev_tmp rfl) (by show (numB s.length).length + _ ≤ _; omega)) ?_
  refine sq_plain rfl rfl rfl (w_assign rfl (ev_tmp rfl)) ?_
  refine sq_nil ?_
  refine awp_ret ?_
  exact retR rfl (rv_tmp' rfl (by rfl))
theorem l1TextB_spec (s : Str) (hs : s.length ≤ 1048576) : FSpec Tryz.prog 116 [AV.str s] (AV.str (textB s)) := by
  have hl := numB_len9 (n := s.length) (by omega)
  refine spec_of_awp Tryz.func116 rfl Tryz.ntmps116 rfl ?_
  refine awp_seq ?_
  refine awp_region ?_
  refine sq_plain rfl rfl rfl (w_assign rfl (ev_cs' (l := []) rfl)) ?_
  refine sq_nil ?_
  refine awp_seq ?_
  refine awp_region ?_
  refine sq_plain rfl rfl rfl (w_move rfl (ev_tmp rfl)) ?_
  refine sq_plain rfl rfl rfl (w_slen rfl Tryz.underlying9 (ev_tmp rfl)) ?_
  refine sq_plain rfl rfl rfl (w_call rfl Tryz.call113 rfl (numBS_spec _ (by omega) (by omega)) (evl_cons (ev_tmp rfl) evl_nil)) ?_
  refine sq_plain rfl rfl rfl (w_move rfl (ev_tmp rfl)) ?_
  refine sq_plain rfl rfl rfl (w_cat rfl (ev_tmp rfl) (ev_tmp rfl) (by show (numB s.length).length + _ ≤ _; omega)) ?_
  refine sq_plain rfl rfl rfl (w_assign rfl (ev_tmp rfl)) ?_
  refine sq_nil ?_
  refine awp_ret ?_
  exact retR rfl (rv_tmp' rfl (by rfl))
theorem textsBytes_spec (l : List Str) (hs : sizeL (fun x : Str => x.length) l ≤ 1048576) : FSpec Tryz.prog 106 [strs l] (AV.str (textsB l)) := by
  have hll := sizeL_len (f := fun x : Str => x.length) (l := l)
  refine spec_of_awp Tryz.func106 rfl Tryz.ntmps106 rfl ?_
  refine awp_seq ?_
  refine awp_region ?_
  refine sq_plain rfl rfl rfl (w_assign rfl (ev_cs' (l := []) rfl)) ?_
  refine sq_nil ?_
  refine awp_seq ?_
  refine awp_region ?_
  refine sq_plain rfl rfl rfl (w_move rfl (ev_tmp rfl)) ?_
  refine sq_plain rfl rfl rfl (w_llen rfl Tryz.underlying34 (ev_tmp rfl)) ?_
  refine sq_plain rfl rfl rfl (w_call rfl Tryz.call104 rfl (numBytesI_spec _ (by omega) (by simp only [List.length_map]; omega)) (evl_cons (ev_tmp rfl) evl_nil)) ?_
  refine sq_plain rfl rfl rfl (w_assign rfl (ev_tmp rfl)) ?_
  refine sq_nil ?_
  refine awp_seq ?_
  refine awp_seq ?_
  refine awp_region ?_
  refine sq_plain rfl rfl rfl (w_move rfl (ev_tmp rfl)) ?_
  refine sq_plain rfl rfl rfl (w_llen rfl Tryz.underlying34 (ev_tmp rfl)) ?_
  refine sq_plain rfl rfl rfl (w_move rfl ev_ci) ?_
  refine sq_nil ?_
  refine awp_block ?_
  refine awp_loop_i [(2, _), (9, _), (10, _)] _ (fun (i : Nat) => i ≤ l.length) (fun (i : Nat) => []) (fun (i : Nat) => [(3, AV.str (numB l.length ++ ((l.take i).map textB).flatten)), (11, AV.int i)]) (fun (i : Nat) => l.length - i) (0) ?_ (le_env ⟨congrArg (fun z => some (AV.str z)) (by simp), rfl, rfl, rfl, rfl, trivial⟩) ?_
  · exact Nat.zero_le _
  intro i hinv
  refine awp_seq ?_
  refine awp_region ?_
  refine sq_plain rfl rfl rfl (w_lss rfl (ev_tmp rfl) (ev_tmp rfl)) ?_
  refine sq_nil ?_
  refine awp_seq ?_
  refine awp_cond (ev_tmp rfl) ?_ ?_
  · intro h12
    have k12 := of_decide_eq_true h12; try simp only [List.length_map] at k12
    obtain ⟨x, hx⟩ := get_some (show i < l.length by omega)
    have hnx : (numB l.length ++ ((l.take i).map textB).flatten) ++ textB x = numB l.length ++ ((l.take (i + 1)).map textB).flatten := by rw [takeB_next hx, List.append_assoc]
    have hxl : x.length ≤ 1048576 := Nat.le_trans (sizeT_mem (List.mem_of_getElem? hx)) hs
    have htl := textsB_len hs i
    have hxb := textB_len (t := x) (by omega)
    refine awp_skip ?_
    refine awp_seq ?_
    refine awp_block ?_
    refine awp_seq ?_
    refine awp_region ?_
    refine sq_plain rfl rfl rfl (w_idxm rfl Tryz.underlying34 Tryz.sizeOf9 (ev_tmp rfl) (ev_tmp rfl) hx (by first | omega | ((try simp only [List.length_map, List.length_take, List.length_cons, List.length_nil, chunks_len, szR] at *); omega) | (have hc2 := hc; simp only [Bool.and_eq_true, Bool.or_eq_true, Bool.or_eq_false_iff, Bool.and_eq_false_iff, Bool.not_eq_true', Bool.not_eq_false', decide_eq_true_eq, decide_eq_false_iff_not, beq_iff_eq, bne_iff_ne, List.length_map, List.length_take] at hc2; omega))) ?_
    refine sq_plain rfl rfl rfl (w_loadE1 rfl (ev_tmp rfl) Tryz.isAgg9 rfl) ?_
    refine sq_plain rfl rfl rfl (w_assign rfl (ev_tmp rfl)) ?_
    refine sq_nil ?_
    refine awp_region ?_
    refine sq_plain rfl rfl rfl (w_move rfl (ev_tmp rfl)) ?_
    refine sq_plain rfl rfl rfl (w_move rfl (ev_tmp rfl)) ?_
    refine sq_plain rfl rfl rfl (w_call rfl Tryz.call107 rfl (textBytes_spec _ (by first | assumption | omega)) (evl_cons (ev_tmp rfl) evl_nil)) ?_
    refine sq_plain rfl rfl rfl (w_cat rfl (ev_tmp rfl) (ev_tmp rfl) (by omega)) ?_
    refine sq_plain rfl rfl rfl (w_assign rfl (ev_tmp rfl)) ?_
    refine sq_nil ?_
    refine awp_region ?_
    refine sq_plain rfl rfl rfl (w_addi rfl (ev_tmp rfl) ev_ci (by first | omega | ((try simp only [List.length_map, List.length_take, List.length_cons, List.length_nil, chunks_len, szR] at *); omega) | (have hc2 := hc; simp only [Bool.and_eq_true, Bool.or_eq_true, Bool.or_eq_false_iff, Bool.and_eq_false_iff, Bool.not_eq_true', Bool.not_eq_false', decide_eq_true_eq, decide_eq_false_iff_not, beq_iff_eq, bne_iff_ne, List.length_map, List.length_take] at hc2; omega))) ?_
    refine sq_plain rfl rfl rfl (w_move rfl (ev_tmp rfl)) ?_
    refine sq_nil ?_
    refine round_end i (i + 1) ?_ ?_ (le_env ⟨congrArg (fun z => some (AV.str z)) hnx, rfl, rfl, rfl, rfl, trivial⟩)
    · omega
    · omega
  · intro h12
    have k12 := of_decide_eq_false h12; try simp only [List.length_map] at k12
    have hend : l.take i = l := List.take_of_length_le (by omega)
    rw [hend]
    refine awp_exit ?_
    refine awp_seq ?_
    refine awp_region ?_
    refine sq_plain rfl rfl rfl (w_move rfl (ev_tmp rfl)) ?_
    refine sq_plain rfl rfl rfl (w_assign rfl (ev_tmp rfl)) ?_
    refine sq_nil ?_
    refine awp_ret ?_
    exact retR rfl (rv_tmp' rfl (by rfl))
theorem l1TextsB_spec (l : List Str) (hs : sizeL (fun x : Str => x.length) l ≤ 1048576) : FSpec Tryz.prog 115 [strs l] (AV.str (textsB l)) := by
  have hll := sizeL_len (f := fun x : Str => x.length) (l := l)
  refine spec_of_awp Tryz.func115 rfl Tryz.ntmps115 rfl ?_
  refine awp_seq ?_
  refine awp_region ?_
  refine sq_plain rfl rfl rfl (w_assign rfl (ev_cs' (l := []) rfl)) ?_
  refine sq_nil ?_
  refine awp_seq ?_
  refine awp_region ?_
  refine sq_plain rfl rfl rfl (w_move rfl (ev_tmp rfl)) ?_
  refine sq_plain rfl rfl rfl (w_llen rfl Tryz.underlying34 (ev_tmp rfl)) ?_
  refine sq_plain rfl rfl rfl (w_call rfl Tryz.call113 rfl (numBS_spec _ (by omega) (by simp only [List.length_map]; omega)) (evl_cons (ev_tmp rfl) evl_nil)) ?_
  refine sq_plain rfl rfl rfl (w_assign rfl (ev_tmp rfl)) ?_
  refine sq_nil ?_
  refine awp_seq ?_
  refine awp_seq ?_
  refine awp_region ?_
  refine sq_plain rfl rfl rfl (w_move rfl (ev_tmp rfl)) ?_
  refine sq_plain rfl rfl rfl (w_llen rfl Tryz.underlying34 (ev_tmp rfl)) ?_
  refine sq_plain rfl rfl rfl (w_move rfl ev_ci) ?_
  refine sq_nil ?_
  refine awp_block ?_
  refine awp_loop_i [(2, _), (9, _), (10, _)] _ (fun (i : Nat) => i ≤ l.length) (fun (i : Nat) => []) (fun (i : Nat) => [(3, AV.str (numB l.length ++ ((l.take i).map textB).flatten)), (11, AV.int i)]) (fun (i : Nat) => l.length - i) (0) ?_ (le_env ⟨congrArg (fun z => some (AV.str z)) (by simp), rfl, rfl, rfl, rfl, trivial⟩) ?_
  · exact Nat.zero_le _
  intro i hinv
  refine awp_seq ?_
  refine awp_region ?_
  refine sq_plain rfl rfl rfl (w_lss rfl (ev_tmp rfl) (ev_tmp rfl)) ?_
  refine sq_nil ?_
  refine awp_seq ?_
  refine awp_cond (ev_tmp rfl) ?_ ?_
  · intro h12
    have k12 := of_decide_eq_true h12; try simp only [List.length_map] at k12
    obtain ⟨x, hx⟩ := get_some (show i < l.length by omega)
    have hnx : (numB l.length ++ ((l.take i).map textB).flatten) ++ textB x = numB l.length ++ ((l.take (i + 1)).map textB).flatten := by rw [takeB_next hx, List.append_assoc]
    have hxl : x.length ≤ 1048576 := Nat.le_trans (sizeT_mem (List.mem_of_getElem? hx)) hs
    have htl := textsB_len hs i
    have hxb := textB_len (t := x) (by omega)
    refine awp_skip ?_
    refine awp_seq ?_
    refine awp_block ?_
    refine awp_seq ?_
    refine awp_region ?_
    refine sq_plain rfl rfl rfl (w_idxm rfl Tryz.underlying34 Tryz.sizeOf9 (ev_tmp rfl) (ev_tmp rfl) hx (by first | omega | ((try simp only [List.length_map, List.length_take, List.length_cons, List.length_nil, chunks_len, szR] at *); omega) | (have hc2 := hc; simp only [Bool.and_eq_true, Bool.or_eq_true, Bool.or_eq_false_iff, Bool.and_eq_false_iff, Bool.not_eq_true', Bool.not_eq_false', decide_eq_true_eq, decide_eq_false_iff_not, beq_iff_eq, bne_iff_ne, List.length_map, List.length_take] at hc2; omega))) ?_
    refine sq_plain rfl rfl rfl (w_loadE1 rfl (ev_tmp rfl) Tryz.isAgg9 rfl) ?_
    refine sq_plain rfl rfl rfl (w_assign rfl (ev_tmp rfl)) ?_
    refine sq_nil ?_
    refine awp_region ?_
    refine sq_plain rfl rfl rfl (w_move rfl (ev_tmp rfl)) ?_
    refine sq_plain rfl rfl rfl (w_move rfl (ev_tmp rfl)) ?_
    refine sq_plain rfl rfl rfl (w_call rfl Tryz.call116 rfl (l1TextB_spec _ (by first | assumption | omega)) (evl_cons (ev_tmp rfl) evl_nil)) ?_
    refine sq_plain rfl rfl rfl (w_cat rfl (ev_tmp rfl) (ev_tmp rfl) (by omega)) ?_
    refine sq_plain rfl rfl rfl (w_assign rfl (ev_tmp rfl)) ?_
    refine sq_nil ?_
    refine awp_region ?_
    refine sq_plain rfl rfl rfl (w_addi rfl (ev_tmp rfl) ev_ci (by first | omega | ((try simp only [List.length_map, List.length_take, List.length_cons, List.length_nil, chunks_len, szR] at *); omega) | (have hc2 := hc; simp only [Bool.and_eq_true, Bool.or_eq_true, Bool.or_eq_false_iff, Bool.and_eq_false_iff, Bool.not_eq_true', Bool.not_eq_false', decide_eq_true_eq, decide_eq_false_iff_not, beq_iff_eq, bne_iff_ne, List.length_map, List.length_take] at hc2; omega))) ?_
    refine sq_plain rfl rfl rfl (w_move rfl (ev_tmp rfl)) ?_
    refine sq_nil ?_
    refine round_end i (i + 1) ?_ ?_ (le_env ⟨congrArg (fun z => some (AV.str z)) hnx, rfl, rfl, rfl, rfl, trivial⟩)
    · omega
    · omega
  · intro h12
    have k12 := of_decide_eq_false h12; try simp only [List.length_map] at k12
    have hend : l.take i = l := List.take_of_length_le (by omega)
    rw [hend]
    refine awp_exit ?_
    refine awp_seq ?_
    refine awp_region ?_
    refine sq_plain rfl rfl rfl (w_move rfl (ev_tmp rfl)) ?_
    refine sq_plain rfl rfl rfl (w_assign rfl (ev_tmp rfl)) ?_
    refine sq_nil ?_
    refine awp_ret ?_
    exact retR rfl (rv_tmp' rfl (by rfl))
theorem srcTexts_own (q : Nat) (b : Str) (s : TSrc) (hs : s.at' ≤ b.length) (hb : b.length ≤ 1048576) : GSpec Tryz.prog 68 [AV.ptr q 0] [.box q 74 (srcC b s)] (fun x : TSrc × List Str × Value => TextsOk b s x.1 x.2.1) (fun x => [.box q 74 (srcC b x.1), .arr x.2.2 9 1 (x.2.1.map fun t => [AV.str t])]) (fun x => AV.is x.2.2) := by
  refine gspec_of_awp Tryz.func68 rfl Tryz.ntmps68 rfl ?_
  refine awp_seq ?_
  refine awp_region ?_
  refine sq_plain rfl rfl rfl (w_assign rfl ev_cnils) ?_
  refine sq_nil ?_
  refine awp_seq ?_
  refine awp_region ?_
  refine sq_plain rfl rfl rfl (w_move rfl (ev_tmp rfl)) ?_
  refine sq_callG [0] rfl rfl rfl rfl Tryz.call66 rfl (srcNum_own q b s hs hb) (evl_cons (ev_tmp rfl) evl_nil) rfl ?_
  intro x7 ok7
  obtain ⟨N, hN⟩ : ∃ N, x7.2 = N := ⟨_, rfl⟩
  rw [hN]
  refine sq_plain rfl rfl rfl (w_assign rfl (ev_tmp rfl)) ?_
  refine sq_nil ?_
  refine awp_seq ?_
  refine awp_seq ?_
  refine awp_region ?_
  refine sq_plain rfl rfl rfl (w_move rfl (ev_tmp rfl)) ?_
  refine sq_plain rfl rfl rfl (w_gtr rfl (ev_tmp rfl) ev_ci) ?_
  refine sq_nil ?_
  refine awp_cond (ev_tmp rfl) ?_ ?_
  · intro h9
    have k9 := of_decide_eq_true h9; try simp only [List.length_map] at k9
    have hrun := runOk_big ok7 (by omega) N
    have hsmall : (true = false → N ≤ 40) := fun h => by cases h
    refine awp_region ?_
    refine sq_plain rfl rfl rfl (w_move rfl (ev_tmp rfl)) ?_
    refine sq_callG [0] rfl rfl rfl rfl Tryz.call123 rfl (srcFail_own q b x7.1) (evl_cons (ev_tmp rfl) evl_nil) rfl ?_
    intro x11 ok11
    refine sq_nil ?_
    refine awp_seq ?_
    refine awp_region ?_
    refine sq_emptyarr rfl rfl rfl rfl Tryz.underlying34 Tryz.sizeOf9 ?_
    intro v12
    refine sq_plain rfl rfl rfl (w_assign rfl (ev_tmp rfl)) ?_
    refine sq_nil ?_
    refine awp_seq ?_
    refine awp_seq ?_
    refine awp_region ?_
    refine sq_plain rfl rfl rfl (w_assign rfl ev_ci) ?_
    refine sq_nil ?_
    refine awp_block ?_
    refine AWP.le (le_pick [1, 0] rfl) ?_
    refine awp_loop_i4 [(0, _), (2, _), (3, _)] _ (fun (t : TSrc) (i : Nat) (l : List Str) (v : Value) => RunOk b s t l (N - i) ∧ l.length = i ∧ (t.bad = false → N ≤ 40) ∧ i ≤ 41) (fun (t : TSrc) (i : Nat) (l : List Str) (v : Value) => [.box q 74 (srcC b t), .arr v 9 1 (l.map fun t => [AV.str t])]) (fun (t : TSrc) (i : Nat) (l : List Str) (v : Value) => [(4, AV.is v), (5, AV.int i)]) (fun (t : TSrc) (i : Nat) (l : List Str) (v : Value) => N - i) (_) (0) ([]) (v12) ?_ (le_eq (by rfl) ⟨rfl, rfl, rfl, rfl, rfl, trivial⟩) ?_
    · exact ⟨hrun, rfl, (by first | exact hsmall | (intro _; omega)), by omega⟩
    intro t i l v hinv
    refine awp_seq ?_
    refine awp_seq ?_
    refine awp_region ?_
    refine sq_plain rfl rfl rfl (w_move rfl (ev_tmp rfl)) ?_
    refine sq_plain rfl rfl rfl (w_move rfl (ev_tmp rfl)) ?_
    refine sq_plain rfl rfl rfl (w_lss rfl (ev_tmp rfl) (ev_tmp rfl)) ?_
    refine sq_plain rfl rfl rfl (w_move rfl (ev_tmp rfl)) ?_
    refine sq_grd rfl rfl (guard_t rfl rfl rfl) (fun hc => w_move rfl (ev_tmp rfl)) ?_
    refine sq_grd rfl rfl (guard_t rfl rfl rfl) (fun hc => w_nilB rfl (ev_whn rfl hc)) ?_
    refine sq_grd rfl rfl (guard_t rfl rfl rfl) (fun hc => w_fldBn 2 rfl Tryz.underlying74 rfl Tryz.sizeOf4 (ev_whn rfl hc) rfl) ?_
    refine sq_grd rfl rfl (guard_t rfl rfl rfl) (fun hc => w_loadB1 0 rfl (ev_whn rfl hc) rfl Tryz.isAgg4 rfl) ?_
    refine sq_grd rfl rfl (guard_t rfl rfl rfl) (fun hc => w_not rfl (ev_whn rfl hc)) ?_
    refine sq_plain rfl rfl rfl (w_and rfl (ev_tmp rfl) (evif_w rfl)) ?_
    refine sq_nil ?_
    refine awp_cond (ev_tmp rfl) ?_ ?_
    · intro h22
      simp only [Bool.and_eq_true, decide_eq_true_eq, Bool.not_eq_true'] at h22
      obtain ⟨hi, hnb⟩ := h22
      have hN4 := hinv.2.2.1 hnb
      have htb := hinv.1.1.2
      have hli := hinv.2.1
      refine awp_skip ?_
      refine awp_seq ?_
      refine awp_block ?_
      refine awp_region ?_
      refine sq_plain rfl rfl rfl (w_move rfl (ev_tmp rfl)) ?_
      refine sq_plain rfl rfl rfl (w_move rfl (ev_tmp rfl)) ?_
      refine sq_callG [0] rfl rfl rfl rfl Tryz.call69 rfl (srcText_own q b t htb hb) (evl_cons (ev_tmp rfl) evl_nil) rfl ?_
      intro x27 ok27
      refine sq_plain rfl rfl rfl (w_bslice rfl Tryz.underlying34 Tryz.sizeOf9 Tryz.zeroValue9 rfl rfl rfl rfl (bp_cons (ev_tmp rfl) (as_str _) bp_nil) rfl rfl) ?_
      refine sq_append (by' := 16) 1 rfl rfl rfl rfl Tryz.underlying34 Tryz.type9 rfl rfl rfl rfl rfl rfl (ev_tmp rfl) (ev_tmp rfl) rfl (by first | omega | ((try simp only [List.length_map, List.length_take, List.length_cons, List.length_nil, chunks_len, szR] at *); omega) | (have hc2 := hc; simp only [Bool.and_eq_true, Bool.or_eq_true, Bool.or_eq_false_iff, Bool.and_eq_false_iff, Bool.not_eq_true', Bool.not_eq_false', decide_eq_true_eq, decide_eq_false_iff_not, beq_iff_eq, bne_iff_ne, List.length_map, List.length_take] at hc2; omega)) ?_
      intro v29_1
      refine sq_plain rfl rfl rfl (w_assign rfl (ev_tmp rfl)) ?_
      refine sq_nil ?_
      refine awp_region ?_
      refine sq_plain rfl rfl rfl (w_move rfl (ev_tmp rfl)) ?_
      refine sq_plain rfl rfl rfl (w_addi rfl (ev_tmp rfl) ev_ci (by first | omega | ((try simp only [List.length_map, List.length_take, List.length_cons, List.length_nil, chunks_len, szR] at *); omega) | (have hc2 := hc; simp only [Bool.and_eq_true, Bool.or_eq_true, Bool.or_eq_false_iff, Bool.and_eq_false_iff, Bool.not_eq_true', Bool.not_eq_false', decide_eq_true_eq, decide_eq_false_iff_not, beq_iff_eq, bne_iff_ne, List.length_map, List.length_take] at hc2; omega))) ?_
      refine sq_plain rfl rfl rfl (w_assign rfl (ev_tmp rfl)) ?_
      refine sq_nil ?_
      refine round_end4 t i l v (x27.1) (i + 1) (l ++ [x27.2]) (v29_1) ?_ ?_ (le_eq (by first | rfl | (rw [List.map_append]; rfl)) ⟨rfl, rfl, rfl, rfl, rfl, trivial⟩)
      · exact ⟨runOk_step (m := N - (i + 1)) (by rw [show N - (i + 1) + 1 = N - i by omega]; exact hinv.1) hnb ok27, by simp [hinv.2.1], fun _ => hinv.2.2.1 hnb, by omega⟩
      · omega
    · intro h22
      have hok : TextsOk b s t l := by (cases htb : t.bad with | true => exact runOk_bad hinv.1 htb | false => (rw [htb] at h22; simp at h22; have h9 := hinv.1; rw [show N - i = 0 by omega] at h9; exact runOk_end h9))
      refine awp_exit ?_
      refine awp_seq ?_
      refine awp_region ?_
      refine sq_plain rfl rfl rfl (w_move rfl (ev_tmp rfl)) ?_
      refine sq_plain rfl rfl rfl (w_assign rfl (ev_tmp rfl)) ?_
      refine sq_nil ?_
      refine awp_ret ?_
      (refine retG [0, 0] ((t, l, v)) ?_ rfl (by first | (dsimp only; rfl) | rfl) (resR rfl (rv_tmp' rfl (by rfl))); exact hok)
  · intro h9
    have k9 := of_decide_eq_false h9; try simp only [List.length_map] at k9
    have hrun := runOk_start ok7 (by omega)
    rw [hN] at hrun
    refine awp_skip ?_
    refine awp_seq ?_
    refine awp_region ?_
    refine sq_emptyarr rfl rfl rfl rfl Tryz.underlying34 Tryz.sizeOf9 ?_
    intro v12
    refine sq_plain rfl rfl rfl (w_assign rfl (ev_tmp rfl)) ?_
    refine sq_nil ?_
    refine awp_seq ?_
    refine awp_seq ?_
    refine awp_region ?_
    refine sq_plain rfl rfl rfl (w_assign rfl ev_ci) ?_
    refine sq_nil ?_
    refine awp_block ?_
    refine AWP.le (le_pick [1, 0] rfl) ?_
    refine awp_loop_i4 [(0, _), (2, _), (3, _)] _ (fun (t : TSrc) (i : Nat) (l : List Str) (v : Value) => RunOk b s t l (N - i) ∧ l.length = i ∧ (t.bad = false → N ≤ 40) ∧ i ≤ 41) (fun (t : TSrc) (i : Nat) (l : List Str) (v : Value) => [.box q 74 (srcC b t), .arr v 9 1 (l.map fun t => [AV.str t])]) (fun (t : TSrc) (i : Nat) (l : List Str) (v : Value) => [(4, AV.is v), (5, AV.int i)]) (fun (t : TSrc) (i : Nat) (l : List Str) (v : Value) => N - i) (_) (0) ([]) (v12) ?_ (le_eq (by rfl) ⟨rfl, rfl, rfl, rfl, rfl, trivial⟩) ?_
    · exact ⟨hrun, rfl, (by first | exact hsmall | (intro _; omega)), by omega⟩
    intro t i l v hinv
    refine awp_seq ?_
    refine awp_seq ?_
    refine awp_region ?_
    refine sq_plain rfl rfl rfl (w_move rfl (ev_tmp rfl)) ?_
    refine sq_plain rfl rfl rfl (w_move rfl (ev_tmp rfl)) ?_
    refine sq_plain rfl rfl rfl (w_lss rfl (ev_tmp rfl) (ev_tmp rfl)) ?_
    refine sq_plain rfl rfl rfl (w_move rfl (ev_tmp rfl)) ?_
    refine sq_grd rfl rfl (guard_t rfl rfl rfl) (fun hc => w_move rfl (ev_tmp rfl)) ?_
    refine sq_grd rfl rfl (guard_t rfl rfl rfl) (fun hc => w_nilB rfl (ev_whn rfl hc)) ?_
    refine sq_grd rfl rfl (guard_t rfl rfl rfl) (fun hc => w_fldBn 2 rfl Tryz.underlying74 rfl Tryz.sizeOf4 (ev_whn rfl hc) rfl) ?_
    refine sq_grd rfl rfl (guard_t rfl rfl rfl) (fun hc => w_loadB1 0 rfl (ev_whn rfl hc) rfl Tryz.isAgg4 rfl) ?_
    refine sq_grd rfl rfl (guard_t rfl rfl rfl) (fun hc => w_not rfl (ev_whn rfl hc)) ?_
    refine sq_plain rfl rfl rfl (w_and rfl (ev_tmp rfl) (evif_w rfl)) ?_
    refine sq_nil ?_
    refine awp_cond (ev_tmp rfl) ?_ ?_
    · intro h22
      simp only [Bool.and_eq_true, decide_eq_true_eq, Bool.not_eq_true'] at h22
      obtain ⟨hi, hnb⟩ := h22
      have hN4 := hinv.2.2.1 hnb
      have htb := hinv.1.1.2
      have hli := hinv.2.1
      refine awp_skip ?_
      refine awp_seq ?_
      refine awp_block ?_
      refine awp_region ?_
      refine sq_plain rfl rfl rfl (w_move rfl (ev_tmp rfl)) ?_
      refine sq_plain rfl rfl rfl (w_move rfl (ev_tmp rfl)) ?_
      refine sq_callG [0] rfl rfl rfl rfl Tryz.call69 rfl (srcText_own q b t htb hb) (evl_cons (ev_tmp rfl) evl_nil) rfl ?_
      intro x27 ok27
      refine sq_plain rfl rfl rfl (w_bslice rfl Tryz.underlying34 Tryz.sizeOf9 Tryz.zeroValue9 rfl rfl rfl rfl (bp_cons (ev_tmp rfl) (as_str _) bp_nil) rfl rfl) ?_
      refine sq_append (by' := 16) 1 rfl rfl rfl rfl Tryz.underlying34 Tryz.type9 rfl rfl rfl rfl rfl rfl (ev_tmp rfl) (ev_tmp rfl) rfl (by first | omega | ((try simp only [List.length_map, List.length_take, List.length_cons, List.length_nil, chunks_len, szR] at *); omega) | (have hc2 := hc; simp only [Bool.and_eq_true, Bool.or_eq_true, Bool.or_eq_false_iff, Bool.and_eq_false_iff, Bool.not_eq_true', Bool.not_eq_false', decide_eq_true_eq, decide_eq_false_iff_not, beq_iff_eq, bne_iff_ne, List.length_map, List.length_take] at hc2; omega)) ?_
      intro v29_2
      refine sq_plain rfl rfl rfl (w_assign rfl (ev_tmp rfl)) ?_
      refine sq_nil ?_
      refine awp_region ?_
      refine sq_plain rfl rfl rfl (w_move rfl (ev_tmp rfl)) ?_
      refine sq_plain rfl rfl rfl (w_addi rfl (ev_tmp rfl) ev_ci (by first | omega | ((try simp only [List.length_map, List.length_take, List.length_cons, List.length_nil, chunks_len, szR] at *); omega) | (have hc2 := hc; simp only [Bool.and_eq_true, Bool.or_eq_true, Bool.or_eq_false_iff, Bool.and_eq_false_iff, Bool.not_eq_true', Bool.not_eq_false', decide_eq_true_eq, decide_eq_false_iff_not, beq_iff_eq, bne_iff_ne, List.length_map, List.length_take] at hc2; omega))) ?_
      refine sq_plain rfl rfl rfl (w_assign rfl (ev_tmp rfl)) ?_
      refine sq_nil ?_
      refine round_end4 t i l v (x27.1) (i + 1) (l ++ [x27.2]) (v29_2) ?_ ?_ (le_eq (by first | rfl | (rw [List.map_append]; rfl)) ⟨rfl, rfl, rfl, rfl, rfl, trivial⟩)
      · exact ⟨runOk_step (m := N - (i + 1)) (by rw [show N - (i + 1) + 1 = N - i by omega]; exact hinv.1) hnb ok27, by simp [hinv.2.1], fun _ => hinv.2.2.1 hnb, by omega⟩
      · omega
    · intro h22
      have hok : TextsOk b s t l := by (cases htb : t.bad with | true => exact runOk_bad hinv.1 htb | false => (rw [htb] at h22; simp at h22; have h9 := hinv.1; rw [show N - i = 0 by omega] at h9; exact runOk_end h9))
      refine awp_exit ?_
      refine awp_seq ?_
      refine awp_region ?_
      refine sq_plain rfl rfl rfl (w_move rfl (ev_tmp rfl)) ?_
      refine sq_plain rfl rfl rfl (w_assign rfl (ev_tmp rfl)) ?_
      refine sq_nil ?_
      refine awp_ret ?_
      (refine retG [0, 0] ((t, l, v)) ?_ rfl (by first | (dsimp only; rfl) | rfl) (resR rfl (rv_tmp' rfl (by rfl))); exact hok)
end Go.Proofs.YtmlmmgeadombbaaGreatDoor

set_option linter.unusedVariables false
set_option linter.unusedSimpArgs false
set_option maxRecDepth 100000
set_option maxHeartbeats 1000000
namespace Go.M
open Go.AV
theorem u8w {x : Int} {m : Nat} (h : x % 256 = ((m % 256 : Nat) : Int)) : IntKind.u8.wrap x = ((UInt8.ofNat m).toNat : Int) := by
  have : (UInt8.ofNat m).toNat = m % 256 := by simp
  rw [this, ← h]
  simp [IntKind.wrap, IntKind.bits, IntKind.signed]
theorem thr16 (m : Nat) (hm : m < 16777216) : IntKind.u8.wrap ((m : Int) / 2 ^ (16 : Int).toNat) = ((UInt8.ofNat (m / 65536)).toNat : Int) := u8w (by rw [show (2 : Int) ^ (16 : Int).toNat = 65536 from rfl]; omega)
theorem thr8 (m : Nat) (hm : m < 16777216) : IntKind.u8.wrap ((m : Int) / 2 ^ (8 : Int).toNat) = ((UInt8.ofNat (m / 256 % 256)).toNat : Int) := u8w (by rw [show (2 : Int) ^ (8 : Int).toNat = 256 from rfl]; omega)
theorem thr0 (m : Nat) : IntKind.u8.wrap (m : Int) = ((UInt8.ofNat (m % 256)).toNat : Int) := u8w (by omega)
theorem div16 (m : Nat) (hm : m < 16777216) : IntKind.u8.wrap (IntKind.i64.wrap ((m : Int).tdiv 65536)) = ((UInt8.ofNat (m / 65536)).toNat : Int) := by
  rw [show ((m : Int)).tdiv 65536 = ((m / 65536 : Nat) : Int) from rfl, in64 (by omega)]
  exact u8w (by omega)
theorem div8 (m : Nat) (hm : m < 16777216) : IntKind.u8.wrap ((IntKind.i64.wrap ((m : Int).tdiv 256)).tmod 256) = ((UInt8.ofNat (m / 256 % 256)).toNat : Int) := by
  rw [show ((m : Int)).tdiv 256 = ((m / 256 : Nat) : Int) from rfl, in64 (by omega), show ((m / 256 : Nat) : Int).tmod 256 = ((m / 256 % 256 : Nat) : Int) from rfl]
  exact u8w (by omega)
theorem div0 (m : Nat) : IntKind.u8.wrap ((m : Int).tmod 256) = ((UInt8.ofNat (m % 256)).toNat : Int) := by
  rw [show (m : Int).tmod 256 = ((m % 256 : Nat) : Int) from rfl]
  exact u8w (by omega)
theorem byte_wrap (c : UInt8) : IntKind.i64.wrap ((c.toNat : Nat) : Int) = c.toNat := in64 (by have := c.toNat_lt; omega)
theorem sum_step {s : Str} {i : Nat} {c : UInt8} (h : s[i]? = some c) : (31 * ((sumB (s.take i) : Nat) : Int) + (c.toNat : Int) + 1).tmod 16000057 = ((sumB (s.take (i + 1)) : Nat) : Int) := by
  rw [sumB_next h, sumStep, show (31 * ((sumB (s.take i) : Nat) : Int) + (c.toNat : Int) + 1) = ((31 * sumB (s.take i) + c.toNat + 1 : Nat) : Int) by simp, show ((16000057 : Int)) = ((16000057 : Nat) : Int) from rfl, ← Int.ofNat_tmod]
end Go.M
namespace Go.Proofs.YtmlmmgeadombbaaGreatDoor
open Go Go.AV Go.M
attribute [local irreducible] OpW OpA OpS AWP FSpec ESpec GSpec OpE RetOk RetOkG RvDen Le Ev GuardIs SrcIs
theorem sumOf_spec (s : Str) (hs : s.length ≤ 4611686018427387904) : FSpec Tryz.prog 151 [AV.str s] (AV.int (sumB s)) := by
  refine spec_of_awp Tryz.func151 rfl Tryz.ntmps151 rfl ?_
  refine awp_seq ?_
  refine awp_region ?_
  refine sq_plain rfl rfl rfl (w_assign rfl ev_ci) ?_
  refine sq_nil ?_
  refine awp_seq ?_
  refine awp_region ?_
  refine sq_plain rfl rfl rfl (w_assign rfl ev_ci) ?_
  refine sq_nil ?_
  refine awp_seq ?_
  refine awp_seq ?_
  refine awp_region ?_
  refine sq_plain rfl rfl rfl (w_move rfl (ev_tmp rfl)) ?_
  refine sq_plain rfl rfl rfl (w_slen rfl Tryz.underlying9 (ev_tmp rfl)) ?_
  refine sq_plain rfl rfl rfl (w_move rfl ev_ci) ?_
  refine sq_nil ?_
  refine awp_block ?_
  refine awp_loop_i [(0, _), (2, _), (6, _)] _ (fun (i : Nat) => i ≤ s.length) (fun (i : Nat) => []) (fun (i : Nat) => [(3, AV.int (sumB (s.take i))), (7, AV.int i)]) (fun (i : Nat) => s.length - i) (0) ?_ (le_env ⟨rfl, rfl, rfl, rfl, rfl, trivial⟩) ?_
  · exact Nat.zero_le _
  intro i hinv
  refine awp_seq ?_
  refine awp_region ?_
  refine sq_plain rfl rfl rfl (w_lss rfl (ev_tmp rfl) (ev_tmp rfl)) ?_
  refine sq_nil ?_
  refine awp_seq ?_
  refine awp_cond (ev_tmp rfl) ?_ ?_
  · intro h8
    have k8 := of_decide_eq_true h8; try simp only [List.length_map] at k8
    have hlt : i < s.length := by have := of_decide_eq_true h8; omega
    obtain ⟨c, hc⟩ := get_some hlt
    have hsl := sumB_lt (s.take i)
    have hcl := c.toNat_lt
    refine awp_skip ?_
    refine awp_seq ?_
    refine awp_block ?_
    refine awp_seq ?_
    refine awp_region ?_
    refine sq_plain rfl rfl rfl (w_move rfl (ev_tmp rfl)) ?_
    refine sq_plain rfl rfl rfl (w_assign rfl (ev_tmp rfl)) ?_
    refine sq_nil ?_
    refine awp_region ?_
    refine sq_plain rfl rfl rfl (w_move rfl (ev_tmp rfl)) ?_
    refine sq_plain rfl rfl rfl (w_muli rfl ev_ci (ev_tmp rfl) (by first | omega | ((try simp only [List.length_map, List.length_take, List.length_cons, List.length_nil, chunks_len, szR] at *); omega) | (have hc2 := hc; simp only [Bool.and_eq_true, Bool.or_eq_true, Bool.or_eq_false_iff, Bool.and_eq_false_iff, Bool.not_eq_true', Bool.not_eq_false', decide_eq_true_eq, decide_eq_false_iff_not, beq_iff_eq, bne_iff_ne, List.length_map, List.length_take] at hc2; omega))) ?_
    refine sq_plain rfl rfl rfl (w_move rfl (ev_tmp rfl)) ?_
    refine sq_plain rfl rfl rfl (w_move rfl (ev_tmp rfl)) ?_
    refine sq_plain rfl rfl rfl (w_sidx rfl Tryz.underlying9 (ev_tmp rfl) (ev_tmp rfl) (by omega) (by first | exact hc | (rw [Int.toNat_natCast]; exact hc))) ?_
    refine sq_plain rfl rfl rfl (w_conv rfl (by kernel_rfl) Tryz.underlying3 (ev_tmp rfl)) ?_
    rw [byte_wrap]
    refine sq_plain rfl rfl rfl (w_addi rfl (ev_tmp rfl) (ev_tmp rfl) (by first | omega | ((try simp only [List.length_map, List.length_take, List.length_cons, List.length_nil, chunks_len, szR] at *); omega) | (have hc2 := hc; simp only [Bool.and_eq_true, Bool.or_eq_true, Bool.or_eq_false_iff, Bool.and_eq_false_iff, Bool.not_eq_true', Bool.not_eq_false', decide_eq_true_eq, decide_eq_false_iff_not, beq_iff_eq, bne_iff_ne, List.length_map, List.length_take] at hc2; omega))) ?_
    refine sq_plain rfl rfl rfl (w_addi rfl (ev_tmp rfl) ev_ci (by first | omega | ((try simp only [List.length_map, List.length_take, List.length_cons, List.length_nil, chunks_len, szR] at *); omega) | (have hc2 := hc; simp only [Bool.and_eq_true, Bool.or_eq_true, Bool.or_eq_false_iff, Bool.and_eq_false_iff, Bool.not_eq_true', Bool.not_eq_false', decide_eq_true_eq, decide_eq_false_iff_not, beq_iff_eq, bne_iff_ne, List.length_map, List.length_take] at hc2; omega))) ?_
    refine sq_plain rfl rfl rfl (w_rem rfl (ev_tmp rfl) ev_ci (by decide)) ?_
    refine sq_plain rfl rfl rfl (w_assign rfl (ev_tmp rfl)) ?_
    refine sq_nil ?_
    refine awp_region ?_
    refine sq_plain rfl rfl rfl (w_addi rfl (ev_tmp rfl) ev_ci (by first | omega | ((try simp only [List.length_map, List.length_take, List.length_cons, List.length_nil, chunks_len, szR] at *); omega) | (have hc2 := hc; simp only [Bool.and_eq_true, Bool.or_eq_true, Bool.or_eq_false_iff, Bool.and_eq_false_iff, Bool.not_eq_true', Bool.not_eq_false', decide_eq_true_eq, decide_eq_false_iff_not, beq_iff_eq, bne_iff_ne, List.length_map, List.length_take] at hc2; omega))) ?_
    refine sq_plain rfl rfl rfl (w_move rfl (ev_tmp rfl)) ?_
    refine sq_nil ?_
    refine round_end i (i + 1) ?_ ?_ (le_env ⟨congrArg (fun z => some (AV.int z)) (sum_step hc), rfl, rfl, rfl, rfl, trivial⟩)
    · omega
    · omega
  · intro h8
    have k8 := of_decide_eq_false h8; try simp only [List.length_map] at k8
    have hge : s.length ≤ i := by have := of_decide_eq_false h8; omega
    rw [List.take_of_length_le hge]
    refine awp_exit ?_
    refine awp_seq ?_
    refine awp_region ?_
    refine sq_plain rfl rfl rfl (w_move rfl (ev_tmp rfl)) ?_
    refine sq_plain rfl rfl rfl (w_assign rfl (ev_tmp rfl)) ?_
    refine sq_nil ?_
    refine awp_ret ?_
    exact retR rfl (rv_tmp' rfl (by rfl))
theorem l1Sum_spec (s : Str) (hs : s.length ≤ 4611686018427387904) : FSpec Tryz.prog 131 [AV.str s] (AV.int (sumB s)) := by
  refine spec_of_awp Tryz.func131 rfl Tryz.ntmps131 rfl ?_
  refine awp_seq ?_
  refine awp_region ?_
  refine sq_plain rfl rfl rfl (w_assign rfl ev_ci) ?_
  refine sq_nil ?_
  refine awp_seq ?_
  refine awp_region ?_
  refine sq_plain rfl rfl rfl (w_assign rfl ev_ci) ?_
  refine sq_nil ?_
  refine awp_seq ?_
  refine awp_seq ?_
  refine awp_region ?_
  refine sq_plain rfl rfl rfl (w_assign rfl ev_ci) ?_
  refine sq_nil ?_
  refine awp_block ?_
  refine awp_loop_i [(0, _), (2, _)] _ (fun (i : Nat) => i ≤ s.length) (fun (i : Nat) => []) (fun (i : Nat) => [(3, AV.int (sumB (s.take i))), (4, AV.int i)]) (fun (i : Nat) => s.length - i) (0) ?_ (le_env ⟨rfl, rfl, rfl, rfl, trivial⟩) ?_
  · exact Nat.zero_le _
  intro i hinv
  refine awp_seq ?_
  refine awp_seq ?_
  refine awp_region ?_
  refine sq_plain rfl rfl rfl (w_move rfl (ev_tmp rfl)) ?_
  refine sq_plain rfl rfl rfl (w_move rfl (ev_tmp rfl)) ?_
  refine sq_plain rfl rfl rfl (w_slen rfl Tryz.underlying9 (ev_tmp rfl)) ?_
  refine sq_plain rfl rfl rfl (w_lss rfl (ev_tmp rfl) (ev_tmp rfl)) ?_
  refine sq_nil ?_
  refine awp_cond (ev_tmp rfl) ?_ ?_
  · intro h8
    have k8 := of_decide_eq_true h8; try simp only [List.length_map] at k8
    have hlt : i < s.length := by have := of_decide_eq_true h8; omega
    obtain ⟨c, hc⟩ := get_some hlt
    have hsl := sumB_lt (s.take i)
    have hcl := c.toNat_lt
    refine awp_skip ?_
    refine awp_seq ?_
    refine awp_block ?_
    refine awp_region ?_
    refine sq_plain rfl rfl rfl (w_move rfl (ev_tmp rfl)) ?_
    refine sq_plain rfl rfl rfl (w_muli rfl ev_ci (ev_tmp rfl) (by first | omega | ((try simp only [List.length_map, List.length_take, List.length_cons, List.length_nil, chunks_len, szR] at *); omega) | (have hc2 := hc; simp only [Bool.and_eq_true, Bool.or_eq_true, Bool.or_eq_false_iff, Bool.and_eq_false_iff, Bool.not_eq_true', Bool.not_eq_false', decide_eq_true_eq, decide_eq_false_iff_not, beq_iff_eq, bne_iff_ne, List.length_map, List.length_take] at hc2; omega))) ?_
    refine sq_plain rfl rfl rfl (w_move rfl (ev_tmp rfl)) ?_
    refine sq_plain rfl rfl rfl (w_move rfl (ev_tmp rfl)) ?_
    refine sq_plain rfl rfl rfl (w_sidx rfl Tryz.underlying9 (ev_tmp rfl) (ev_tmp rfl) (by omega) (by first | exact hc | (rw [Int.toNat_natCast]; exact hc))) ?_
    refine sq_plain rfl rfl rfl (w_conv rfl (by kernel_rfl) Tryz.underlying3 (ev_tmp rfl)) ?_
    rw [byte_wrap]
    refine sq_plain rfl rfl rfl (w_addi rfl (ev_tmp rfl) (ev_tmp rfl) (by first | omega | ((try simp only [List.length_map, List.length_take, List.length_cons, List.length_nil, chunks_len, szR] at *); omega) | (have hc2 := hc; simp only [Bool.and_eq_true, Bool.or_eq_true, Bool.or_eq_false_iff, Bool.and_eq_false_iff, Bool.not_eq_true', Bool.not_eq_false', decide_eq_true_eq, decide_eq_false_iff_not, beq_iff_eq, bne_iff_ne, List.length_map, List.length_take] at hc2; omega))) ?_
    refine sq_plain rfl rfl rfl (w_addi rfl (ev_tmp rfl) ev_ci (by first | omega | ((try simp only [List.length_map, List.length_take, List.length_cons, List.length_nil, chunks_len, szR] at *); omega) | (have hc2 := hc; simp only [Bool.and_eq_true, Bool.or_eq_true, Bool.or_eq_false_iff, Bool.and_eq_false_iff, Bool.not_eq_true', Bool.not_eq_false', decide_eq_true_eq, decide_eq_false_iff_not, beq_iff_eq, bne_iff_ne, List.length_map, List.length_take] at hc2; omega))) ?_
    refine sq_plain rfl rfl rfl (w_rem rfl (ev_tmp rfl) ev_ci (by decide)) ?_
    refine sq_plain rfl rfl rfl (w_assign rfl (ev_tmp rfl)) ?_
    refine sq_nil ?_
    refine awp_region ?_
    refine sq_plain rfl rfl rfl (w_move rfl (ev_tmp rfl)) ?_
    refine sq_plain rfl rfl rfl (w_addi rfl (ev_tmp rfl) ev_ci (by first | omega | ((try simp only [List.length_map, List.length_take, List.length_cons, List.length_nil, chunks_len, szR] at *); omega) | (have hc2 := hc; simp only [Bool.and_eq_true, Bool.or_eq_true, Bool.or_eq_false_iff, Bool.and_eq_false_iff, Bool.not_eq_true', Bool.not_eq_false', decide_eq_true_eq, decide_eq_false_iff_not, beq_iff_eq, bne_iff_ne, List.length_map, List.length_take] at hc2; omega))) ?_
    refine sq_plain rfl rfl rfl (w_assign rfl (ev_tmp rfl)) ?_
    refine sq_nil ?_
    refine round_end i (i + 1) ?_ ?_ (le_env ⟨congrArg (fun z => some (AV.int z)) (sum_step hc), rfl, rfl, rfl, trivial⟩)
    · omega
    · omega
  · intro h8
    have k8 := of_decide_eq_false h8; try simp only [List.length_map] at k8
    have hge : s.length ≤ i := by have := of_decide_eq_false h8; omega
    rw [List.take_of_length_le hge]
    refine awp_exit ?_
    refine awp_seq ?_
    refine awp_region ?_
    refine sq_plain rfl rfl rfl (w_move rfl (ev_tmp rfl)) ?_
    refine sq_plain rfl rfl rfl (w_assign rfl (ev_tmp rfl)) ?_
    refine sq_nil ?_
    refine awp_ret ?_
    exact retR rfl (rv_tmp' rfl (by rfl))
theorem seal_spec (s : Str) (hs : s.length ≤ 4611686018427387903) : FSpec Tryz.prog 108 [AV.str s] (AV.str (sealB' s)) := by
  have hsb := sumB_lt s
  refine spec_of_awp Tryz.func108 rfl Tryz.ntmps108 rfl ?_
  refine awp_seq ?_
  refine awp_region ?_
  refine sq_plain rfl rfl rfl (w_assign rfl (ev_cs' (l := []) rfl)) ?_
  refine sq_nil ?_
  refine awp_seq ?_
  refine awp_region ?_
  refine sq_plain rfl rfl rfl (w_move rfl (ev_tmp rfl)) ?_
  refine sq_plain rfl rfl rfl (w_call rfl Tryz.call151 rfl (sumOf_spec _ (by first | assumption | omega)) (evl_cons (ev_tmp rfl) evl_nil)) ?_
  refine sq_plain rfl rfl rfl (w_assign rfl (ev_tmp rfl)) ?_
  refine sq_nil ?_
  refine awp_seq ?_
  obtain ⟨m, hm⟩ : ∃ m, sumB s = m := ⟨_, rfl⟩
  rw [hm] at hsb ⊢
  refine awp_region ?_
  refine sq_plain rfl rfl rfl (w_move rfl (ev_tmp rfl)) ?_
  refine sq_plain rfl rfl rfl (w_move rfl (ev_tmp rfl)) ?_
  refine sq_plain rfl rfl rfl (w_shr rfl (ev_tmp rfl) ev_ci (by decide) (by decide)) ?_
  refine sq_plain rfl rfl rfl (w_conv rfl (by kernel_rfl) Tryz.underlying5 (ev_tmp rfl)) ?_
  refine sq_plain rfl rfl rfl (w_move rfl (ev_tmp rfl)) ?_
  refine sq_plain rfl rfl rfl (w_shr rfl (ev_tmp rfl) ev_ci (by decide) (by decide)) ?_
  refine sq_plain rfl rfl rfl (w_conv rfl (by kernel_rfl) Tryz.underlying5 (ev_tmp rfl)) ?_
  refine sq_plain rfl rfl rfl (w_move rfl (ev_tmp rfl)) ?_
  refine sq_plain rfl rfl rfl (w_conv rfl (by kernel_rfl) Tryz.underlying5 (ev_tmp rfl)) ?_
  rw [thr16 m (by omega), thr8 m (by omega), thr0 m]
  refine sq_plain rfl rfl rfl (w_bslice rfl Tryz.underlying22 Tryz.sizeOf5 Tryz.zeroValue5 rfl rfl rfl rfl (bp_cons (ev_tmp rfl) (as_ik _ _) (bp_cons (ev_tmp rfl) (as_ik _ _) (bp_cons (ev_tmp rfl) (as_ik _ _) bp_nil))) rfl rfl) ?_
  refine sq_plain rfl rfl rfl (w_convB (bs := threeB m) rfl Tryz.underlying22 Tryz.underlying5 Tryz.underlying9 (ev_tmp rfl)) ?_
  refine sq_plain rfl rfl rfl (w_cat rfl (ev_tmp rfl) (ev_tmp rfl) (by unfold threeB; simp only [List.length_cons, List.length_nil]; omega)) ?_
  refine sq_plain rfl rfl rfl (w_assign rfl (ev_tmp rfl)) ?_
  refine sq_nil ?_
  refine awp_ret ?_
  exact retR rfl (rv_tmp' rfl (by exact congrArg AV.str (by unfold sealB'; rw [hm])))
theorem l1Three_spec (m : Nat) (hm : m < 16777216) : FSpec Tryz.prog 130 [AV.int m] (AV.str (threeB m)) := by
  refine spec_of_awp Tryz.func130 rfl Tryz.ntmps130 rfl ?_
  refine awp_seq ?_
  refine awp_region ?_
  refine sq_plain rfl rfl rfl (w_assign rfl (ev_cs' (l := []) rfl)) ?_
  refine sq_nil ?_
  refine awp_seq ?_
  refine awp_region ?_
  refine sq_plain rfl rfl rfl (w_move rfl (ev_tmp rfl)) ?_
  refine sq_plain rfl rfl rfl (w_quo rfl (ev_tmp rfl) ev_ci (by decide)) ?_
  refine sq_plain rfl rfl rfl (w_conv rfl (by kernel_rfl) Tryz.underlying5 (ev_tmp rfl)) ?_
  refine sq_plain rfl rfl rfl (w_move rfl (ev_tmp rfl)) ?_
  refine sq_plain rfl rfl rfl (w_quo rfl (ev_tmp rfl) ev_ci (by decide)) ?_
  refine sq_plain rfl rfl rfl (w_rem rfl (ev_tmp rfl) ev_ci (by decide)) ?_
  refine sq_plain rfl rfl rfl (w_conv rfl (by kernel_rfl) Tryz.underlying5 (ev_tmp rfl)) ?_
  refine sq_plain rfl rfl rfl (w_move rfl (ev_tmp rfl)) ?_
  refine sq_plain rfl rfl rfl (w_rem rfl (ev_tmp rfl) ev_ci (by decide)) ?_
  refine sq_plain rfl rfl rfl (w_conv rfl (by kernel_rfl) Tryz.underlying5 (ev_tmp rfl)) ?_
  rw [div16 m hm, div8 m hm, div0 m]
  refine sq_plain rfl rfl rfl (w_bslice rfl Tryz.underlying22 Tryz.sizeOf5 Tryz.zeroValue5 rfl rfl rfl rfl (bp_cons (ev_tmp rfl) (as_ik _ _) (bp_cons (ev_tmp rfl) (as_ik _ _) (bp_cons (ev_tmp rfl) (as_ik _ _) bp_nil))) rfl rfl) ?_
  refine sq_plain rfl rfl rfl (w_convB (bs := threeB m) rfl Tryz.underlying22 Tryz.underlying5 Tryz.underlying9 (ev_tmp rfl)) ?_
  refine sq_plain rfl rfl rfl (w_assign rfl (ev_tmp rfl)) ?_
  refine sq_nil ?_
  refine awp_ret ?_
  exact retR rfl (rv_tmp' rfl (by rfl))
theorem l1Seal_spec (s : Str) (hs : s.length ≤ 4611686018427387903) : FSpec Tryz.prog 79 [AV.str s] (AV.str (sealB' s)) := by
  have hsb := sumB_lt s
  refine spec_of_awp Tryz.func79 rfl Tryz.ntmps79 rfl ?_
  refine awp_seq ?_
  refine awp_region ?_
  refine sq_plain rfl rfl rfl (w_assign rfl (ev_cs' (l := []) rfl)) ?_
  refine sq_nil ?_
  refine awp_seq ?_
  refine awp_region ?_
  refine sq_plain rfl rfl rfl (w_move rfl (ev_tmp rfl)) ?_
  refine sq_plain rfl rfl rfl (w_move rfl (ev_tmp rfl)) ?_
  refine sq_plain rfl rfl rfl (w_call rfl Tryz.call131 rfl (l1Sum_spec _ (by first | assumption | omega)) (evl_cons (ev_tmp rfl) evl_nil)) ?_
  refine sq_plain rfl rfl rfl (w_call rfl Tryz.call130 rfl (l1Three_spec (sumB s) (by omega)) (evl_cons (ev_tmp rfl) evl_nil)) ?_
  refine sq_plain rfl rfl rfl (w_cat rfl (ev_tmp rfl) (ev_tmp rfl) (by unfold threeB; simp only [List.length_cons, List.length_nil]; omega)) ?_
  refine sq_plain rfl rfl rfl (w_assign rfl (ev_tmp rfl)) ?_
  refine sq_nil ?_
  refine awp_ret ?_
  exact retR rfl (rv_tmp' rfl (by rfl))
end Go.Proofs.YtmlmmgeadombbaaGreatDoor

set_option linter.unusedVariables false
set_option linter.unusedSimpArgs false
namespace Go.M
open Go.AV
structure TCur where
  p : Nat
  seed : Int
def bytesI (l : List Int) : AV := AV.list 1 (l.map fun x => [AV.ik .u8 x])
def curC (code : List Int) (c : TCur) : List AV := [bytesI code, AV.int c.p, AV.ik .u64 c.seed]
def ByteL (code : List Int) : Prop := ∀ x ∈ code, 0 ≤ x ∧ x ≤ 255
theorem byteL_of {l : List Int} (h : ∀ x ∈ l, (Lit.int .u8 x).wf = true) : ByteL l := fun x hx => by
  have := h x hx
  simp only [Lit.wf, IntKind.min, IntKind.max, IntKind.signed, IntKind.bits] at this
  simp at this
  omega
theorem wrapS {x : Int} (h : 0 ≤ x ∧ x ≤ 255) : IntKind.i64.wrap x = x := in64 (by omega)
theorem bandI_255 (x : Int) : 0 ≤ bandI x 255 ∧ bandI x 255 ≤ 255 := by
  unfold bandI
  have h1 : (BitVec.ofInt IntKind.u64.bits x &&& BitVec.ofInt IntKind.u64.bits 255).toNat ≤ 255 := by
    rw [BitVec.toNat_and]
    exact Nat.le_trans Nat.and_le_right (by decide)
  generalize (BitVec.ofInt IntKind.u64.bits x &&& BitVec.ofInt IntKind.u64.bits 255).toNat = n at h1
  unfold IntKind.wrap
  simp [IntKind.bits, IntKind.signed]
  omega
def bigB (code more : List Int) : Bool := decide ((1048576 : Int) < code.length) || decide ((1048576 : Int) - code.length < more.length)
end Go.M

set_option linter.unusedVariables false
set_option linter.unusedSimpArgs false
set_option maxRecDepth 100000
namespace Go.Proofs.YtmlmmgeadombbaaGreatDoor
open Go Go.AV Go.M
attribute [local irreducible] OpW OpA OpS AWP FSpec ESpec GSpec OpE RetOk RetOkG RvDen Le Ev GuardIs SrcIs Int.tmod IntKind.wrap bandI
theorem curNext_own (b : Nat) (code : List Int) (hcode : ByteL code) (c : TCur) (hp : c.p ≤ 8000000) : GSpec Tryz.prog 129 [AV.ptr b 0] [.box b 61 (curC code c)] (fun x : TCur × Int => x.1.p ≤ c.p + 1 ∧ 0 ≤ x.2 ∧ x.2 ≤ 255) (fun x => [.box b 61 (curC code x.1)]) (fun x => AV.int x.2) := by
  have hcb := hcode
  refine gspec_of_awp Tryz.func129 rfl Tryz.ntmps129 rfl ?_
  refine awp_seq ?_
  refine awp_region ?_
  refine sq_plain rfl rfl rfl (w_assign rfl ev_ci) ?_
  refine sq_nil ?_
  refine awp_seq ?_
  refine awp_region ?_
  try rw [wrapS hzb]
  refine sq_plain rfl rfl rfl (w_assign rfl ev_ci) ?_
  refine sq_nil ?_
  refine awp_seq ?_
  refine awp_seq ?_
  refine awp_region_any (by kernel_rfl) (by kernel_rfl) rfl ?_
  refine ch_plain rfl rfl (w_move rfl (ev_tmp rfl)) ?_
  refine ch_plain rfl rfl (w_nilB rfl (ev_tmp rfl)) ?_
  refine ch_plain rfl rfl (w_fldBn 1 rfl Tryz.underlying61 rfl Tryz.sizeOf3 (ev_tmp rfl) rfl) ?_
  refine ch_plain rfl rfl (w_loadB1 0 rfl (ev_tmp rfl) rfl Tryz.isAgg3 rfl) ?_
  refine ch_plain rfl rfl (w_move rfl (ev_tmp rfl)) ?_
  refine ch_plain rfl rfl (w_nilB rfl (ev_tmp rfl)) ?_
  refine ch_plain rfl rfl (w_fldBn 0 rfl Tryz.underlying61 rfl Tryz.sizeOf22 (ev_tmp rfl) rfl) ?_
  refine ch_plain rfl rfl (w_loadB1 0 rfl (ev_tmp rfl) rfl Tryz.isAgg22 rfl) ?_
  refine ch_plain rfl rfl (w_llen rfl Tryz.underlying22 (ev_tmp rfl)) ?_
  refine ch_plain rfl rfl (w_lss rfl (ev_tmp rfl) (ev_tmp rfl)) ?_
  refine ch_nil ?_
  refine awp_cond (ev_tmp rfl) ?_ ?_
  · intro h13
    have k13 := of_decide_eq_true h13; try simp only [List.length_map] at k13
    obtain ⟨z, hz⟩ := get_some (show c.p < code.length by omega)
    have hzb := hcb z (List.mem_of_getElem? hz)
    refine awp_region_any (by kernel_rfl) (by kernel_rfl) rfl ?_
    refine ch_plain rfl rfl (w_move rfl (ev_tmp rfl)) ?_
    refine ch_plain rfl rfl (w_nilB rfl (ev_tmp rfl)) ?_
    refine ch_plain rfl rfl (w_fldBn 0 rfl Tryz.underlying61 rfl Tryz.sizeOf22 (ev_tmp rfl) rfl) ?_
    refine ch_plain rfl rfl (w_loadB1 0 rfl (ev_tmp rfl) rfl Tryz.isAgg22 rfl) ?_
    refine ch_plain rfl rfl (w_move rfl (ev_tmp rfl)) ?_
    refine ch_plain rfl rfl (w_nilB rfl (ev_tmp rfl)) ?_
    refine ch_plain rfl rfl (w_fldBn 1 rfl Tryz.underlying61 rfl Tryz.sizeOf3 (ev_tmp rfl) rfl) ?_
    refine ch_plain rfl rfl (w_loadB1 0 rfl (ev_tmp rfl) rfl Tryz.isAgg3 rfl) ?_
    refine ch_plain rfl rfl (w_idxm rfl Tryz.underlying22 Tryz.sizeOf5 (ev_tmp rfl) (ev_tmp rfl) hz rfl) ?_
    refine ch_plain rfl rfl (w_loadE1 rfl (ev_tmp rfl) Tryz.isAgg5 rfl) ?_
    refine ch_plain rfl rfl (w_conv rfl (by kernel_rfl) Tryz.underlying3 (ev_tmp rfl)) ?_
    try rw [wrapS hzb]
    refine ch_plain rfl rfl (w_assign rfl (ev_tmp rfl)) ?_
    refine ch_nil ?_
    refine awp_seq ?_
    refine awp_region ?_
    refine sq_plain rfl rfl rfl (w_move rfl (ev_tmp rfl)) ?_
    refine sq_plain rfl rfl rfl (w_nilB rfl (ev_tmp rfl)) ?_
    refine sq_plain rfl rfl rfl (w_fldBn 1 rfl Tryz.underlying61 rfl Tryz.sizeOf3 (ev_tmp rfl) rfl) ?_
    refine sq_plain rfl rfl rfl (w_loadB1 0 rfl (ev_tmp rfl) rfl Tryz.isAgg3 rfl) ?_
    refine sq_plain rfl rfl rfl (w_addi rfl (ev_tmp rfl) ev_ci (by first | omega | ((try simp only [List.length_map, List.length_take, List.length_cons, List.length_nil, chunks_len, szR] at *); omega) | (have hc2 := hc; simp only [Bool.and_eq_true, Bool.or_eq_true, Bool.or_eq_false_iff, Bool.and_eq_false_iff, Bool.not_eq_true', Bool.not_eq_false', decide_eq_true_eq, decide_eq_false_iff_not, beq_iff_eq, bne_iff_ne, List.length_map, List.length_take] at hc2; omega))) ?_
    refine sq_plain rfl rfl rfl (w_nilB rfl (ev_tmp rfl)) ?_
    refine sq_plain rfl rfl rfl (w_fldBn 1 rfl Tryz.underlying61 rfl Tryz.sizeOf3 (ev_tmp rfl) rfl) ?_
    refine sq_storeB1 0 rfl rfl rfl (ev_tmp rfl) (ev_tmp rfl) (as_ik _ _) rfl Tryz.sizeOf3 rfl ?_
    refine sq_nil ?_
    refine awp_seq ?_
    refine awp_region ?_
    refine sq_plain rfl rfl rfl (w_move rfl (ev_tmp rfl)) ?_
    refine sq_plain rfl rfl rfl (w_move rfl (ev_tmp rfl)) ?_
    refine sq_plain rfl rfl rfl (w_nilB rfl (ev_tmp rfl)) ?_
    refine sq_plain rfl rfl rfl (w_fldBn 2 rfl Tryz.underlying61 rfl Tryz.sizeOf59 (ev_tmp rfl) rfl) ?_
    refine sq_plain rfl rfl rfl (w_loadB1 0 rfl (ev_tmp rfl) rfl Tryz.isAgg59 rfl) ?_
    refine sq_plain rfl rfl rfl (w_mul rfl (ev_tmp rfl) ev_ci) ?_
    refine sq_plain rfl rfl rfl (w_move rfl (ev_tmp rfl)) ?_
    refine sq_plain rfl rfl rfl (w_conv rfl (by kernel_rfl) Tryz.underlying59 (ev_tmp rfl)) ?_
    refine sq_plain rfl rfl rfl (w_add rfl (ev_tmp rfl) (ev_tmp rfl)) ?_
    refine sq_plain rfl rfl rfl (w_add rfl (ev_tmp rfl) ev_ci) ?_
    refine sq_plain rfl rfl rfl (w_nilB rfl (ev_tmp rfl)) ?_
    refine sq_plain rfl rfl rfl (w_fldBn 2 rfl Tryz.underlying61 rfl Tryz.sizeOf59 (ev_tmp rfl) rfl) ?_
    refine sq_storeB1 0 rfl rfl rfl (ev_tmp rfl) (ev_tmp rfl) (as_ik _ _) rfl Tryz.sizeOf59 rfl ?_
    refine sq_nil ?_
    refine awp_seq ?_
    refine awp_seq ?_
    refine awp_region_any (by kernel_rfl) (by kernel_rfl) rfl ?_
    refine ch_plain rfl rfl (w_move rfl (ev_tmp rfl)) ?_
    refine ch_plain rfl rfl (w_nilB rfl (ev_tmp rfl)) ?_
    refine ch_plain rfl rfl (w_fldBn 1 rfl Tryz.underlying61 rfl Tryz.sizeOf3 (ev_tmp rfl) rfl) ?_
    refine ch_plain rfl rfl (w_loadB1 0 rfl (ev_tmp rfl) rfl Tryz.isAgg3 rfl) ?_
    refine ch_plain rfl rfl (w_move rfl (ev_tmp rfl)) ?_
    refine ch_plain rfl rfl (w_nilB rfl (ev_tmp rfl)) ?_
    refine ch_plain rfl rfl (w_fldBn 0 rfl Tryz.underlying61 rfl Tryz.sizeOf22 (ev_tmp rfl) rfl) ?_
    refine ch_plain rfl rfl (w_loadB1 0 rfl (ev_tmp rfl) rfl Tryz.isAgg22 rfl) ?_
    refine ch_plain rfl rfl (w_llen rfl Tryz.underlying22 (ev_tmp rfl)) ?_
    refine ch_plain rfl rfl (w_leq rfl (ev_tmp rfl) (ev_tmp rfl)) ?_
    refine ch_nil ?_
    refine awp_cond (ev_tmp rfl) ?_ ?_
    · intro h53
      have k53 := of_decide_eq_true h53; try simp only [List.length_map] at k53
      refine awp_seq ?_
      refine awp_region ?_
      refine sq_plain rfl rfl rfl (w_move rfl (ev_tmp rfl)) ?_
      refine sq_plain rfl rfl rfl (w_assign rfl (ev_tmp rfl)) ?_
      refine sq_nil ?_
      refine awp_ret ?_
      (refine retG [0] ((⟨c.p + 1, _⟩, _)) ?_ rfl (by first | (dsimp only; rfl) | rfl) (resR rfl (rv_tmp' rfl (by first | rfl | (refine congrArg AV.bool ?_; simp_all; done)))); first | exact ⟨Nat.le_refl _, hzb⟩ | exact ⟨Nat.le_refl _, Int.le_refl 0, (show (0 : Int) ≤ 255 by decide)⟩ | (rw [wrapS (bandI_255 _)]; exact ⟨Nat.le_refl _, bandI_255 _⟩))
    · intro h53
      have k53 := of_decide_eq_false h53; try simp only [List.length_map] at k53
      refine awp_skip ?_
      refine awp_seq ?_
      refine awp_region ?_
      refine sq_plain rfl rfl rfl (w_move rfl (ev_tmp rfl)) ?_
      refine sq_plain rfl rfl rfl (w_nilB rfl (ev_tmp rfl)) ?_
      refine sq_plain rfl rfl rfl (w_fldBn 2 rfl Tryz.underlying61 rfl Tryz.sizeOf59 (ev_tmp rfl) rfl) ?_
      refine sq_plain rfl rfl rfl (w_loadB1 0 rfl (ev_tmp rfl) rfl Tryz.isAgg59 rfl) ?_
      refine sq_plain rfl rfl rfl (w_shr rfl (ev_tmp rfl) ev_ci (by decide) (by decide)) ?_
      refine sq_plain rfl rfl rfl (w_band rfl (ev_tmp rfl) ev_ci) ?_
      refine sq_plain rfl rfl rfl (w_conv rfl (by kernel_rfl) Tryz.underlying3 (ev_tmp rfl)) ?_
      refine sq_plain rfl rfl rfl (w_assign rfl (ev_tmp rfl)) ?_
      refine sq_nil ?_
      refine awp_ret ?_
      (refine retG [0] ((⟨c.p + 1, _⟩, _)) ?_ rfl (by first | (dsimp only; rfl) | rfl) (resR rfl (rv_tmp' rfl (by first | rfl | (refine congrArg AV.bool ?_; simp_all; done)))); first | exact ⟨Nat.le_refl _, hzb⟩ | exact ⟨Nat.le_refl _, Int.le_refl 0, (show (0 : Int) ≤ 255 by decide)⟩ | (rw [wrapS (bandI_255 _)]; exact ⟨Nat.le_refl _, bandI_255 _⟩))
  · intro h13
    have k13 := of_decide_eq_false h13; try simp only [List.length_map] at k13
    refine awp_skip ?_
    refine awp_seq ?_
    refine awp_region ?_
    refine sq_plain rfl rfl rfl (w_move rfl (ev_tmp rfl)) ?_
    refine sq_plain rfl rfl rfl (w_nilB rfl (ev_tmp rfl)) ?_
    refine sq_plain rfl rfl rfl (w_fldBn 1 rfl Tryz.underlying61 rfl Tryz.sizeOf3 (ev_tmp rfl) rfl) ?_
    refine sq_plain rfl rfl rfl (w_loadB1 0 rfl (ev_tmp rfl) rfl Tryz.isAgg3 rfl) ?_
    refine sq_plain rfl rfl rfl (w_addi rfl (ev_tmp rfl) ev_ci (by first | omega | ((try simp only [List.length_map, List.length_take, List.length_cons, List.length_nil, chunks_len, szR] at *); omega) | (have hc2 := hc; simp only [Bool.and_eq_true, Bool.or_eq_true, Bool.or_eq_false_iff, Bool.and_eq_false_iff, Bool.not_eq_true', Bool.not_eq_false', decide_eq_true_eq, decide_eq_false_iff_not, beq_iff_eq, bne_iff_ne, List.length_map, List.length_take] at hc2; omega))) ?_
    refine sq_plain rfl rfl rfl (w_nilB rfl (ev_tmp rfl)) ?_
    refine sq_plain rfl rfl rfl (w_fldBn 1 rfl Tryz.underlying61 rfl Tryz.sizeOf3 (ev_tmp rfl) rfl) ?_
    refine sq_storeB1 0 rfl rfl rfl (ev_tmp rfl) (ev_tmp rfl) (as_ik _ _) rfl Tryz.sizeOf3 rfl ?_
    refine sq_nil ?_
    refine awp_seq ?_
    refine awp_region ?_
    refine sq_plain rfl rfl rfl (w_move rfl (ev_tmp rfl)) ?_
    refine sq_plain rfl rfl rfl (w_move rfl (ev_tmp rfl)) ?_
    refine sq_plain rfl rfl rfl (w_nilB rfl (ev_tmp rfl)) ?_
    refine sq_plain rfl rfl rfl (w_fldBn 2 rfl Tryz.underlying61 rfl Tryz.sizeOf59 (ev_tmp rfl) rfl) ?_
    refine sq_plain rfl rfl rfl (w_loadB1 0 rfl (ev_tmp rfl) rfl Tryz.isAgg59 rfl) ?_
    refine sq_plain rfl rfl rfl (w_mul rfl (ev_tmp rfl) ev_ci) ?_
    refine sq_plain rfl rfl rfl (w_move rfl (ev_tmp rfl)) ?_
    refine sq_plain rfl rfl rfl (w_conv rfl (by kernel_rfl) Tryz.underlying59 (ev_tmp rfl)) ?_
    refine sq_plain rfl rfl rfl (w_add rfl (ev_tmp rfl) (ev_tmp rfl)) ?_
    refine sq_plain rfl rfl rfl (w_add rfl (ev_tmp rfl) ev_ci) ?_
    refine sq_plain rfl rfl rfl (w_nilB rfl (ev_tmp rfl)) ?_
    refine sq_plain rfl rfl rfl (w_fldBn 2 rfl Tryz.underlying61 rfl Tryz.sizeOf59 (ev_tmp rfl) rfl) ?_
    refine sq_storeB1 0 rfl rfl rfl (ev_tmp rfl) (ev_tmp rfl) (as_ik _ _) rfl Tryz.sizeOf59 rfl ?_
    refine sq_nil ?_
    refine awp_seq ?_
    refine awp_seq ?_
    refine awp_region_any (by kernel_rfl) (by kernel_rfl) rfl ?_
    refine ch_plain rfl rfl (w_move rfl (ev_tmp rfl)) ?_
    refine ch_plain rfl rfl (w_nilB rfl (ev_tmp rfl)) ?_
    refine ch_plain rfl rfl (w_fldBn 1 rfl Tryz.underlying61 rfl Tryz.sizeOf3 (ev_tmp rfl) rfl) ?_
    refine ch_plain rfl rfl (w_loadB1 0 rfl (ev_tmp rfl) rfl Tryz.isAgg3 rfl) ?_
    refine ch_plain rfl rfl (w_move rfl (ev_tmp rfl)) ?_
    refine ch_plain rfl rfl (w_nilB rfl (ev_tmp rfl)) ?_
    refine ch_plain rfl rfl (w_fldBn 0 rfl Tryz.underlying61 rfl Tryz.sizeOf22 (ev_tmp rfl) rfl) ?_
    refine ch_plain rfl rfl (w_loadB1 0 rfl (ev_tmp rfl) rfl Tryz.isAgg22 rfl) ?_
    refine ch_plain rfl rfl (w_llen rfl Tryz.underlying22 (ev_tmp rfl)) ?_
    refine ch_plain rfl rfl (w_leq rfl (ev_tmp rfl) (ev_tmp rfl)) ?_
    refine ch_nil ?_
    refine awp_cond (ev_tmp rfl) ?_ ?_
    · intro h53
      have k53 := of_decide_eq_true h53; try simp only [List.length_map] at k53
      refine awp_seq ?_
      refine awp_region ?_
      refine sq_plain rfl rfl rfl (w_move rfl (ev_tmp rfl)) ?_
      refine sq_plain rfl rfl rfl (w_assign rfl (ev_tmp rfl)) ?_
      refine sq_nil ?_
      refine awp_ret ?_
      (refine retG [0] ((⟨c.p + 1, _⟩, _)) ?_ rfl (by first | (dsimp only; rfl) | rfl) (resR rfl (rv_tmp' rfl (by first | rfl | (refine congrArg AV.bool ?_; simp_all; done)))); first | exact ⟨Nat.le_refl _, hzb⟩ | exact ⟨Nat.le_refl _, Int.le_refl 0, (show (0 : Int) ≤ 255 by decide)⟩ | (rw [wrapS (bandI_255 _)]; exact ⟨Nat.le_refl _, bandI_255 _⟩))
    · intro h53
      have k53 := of_decide_eq_false h53; try simp only [List.length_map] at k53
      refine awp_skip ?_
      refine awp_seq ?_
      refine awp_region ?_
      refine sq_plain rfl rfl rfl (w_move rfl (ev_tmp rfl)) ?_
      refine sq_plain rfl rfl rfl (w_nilB rfl (ev_tmp rfl)) ?_
      refine sq_plain rfl rfl rfl (w_fldBn 2 rfl Tryz.underlying61 rfl Tryz.sizeOf59 (ev_tmp rfl) rfl) ?_
      refine sq_plain rfl rfl rfl (w_loadB1 0 rfl (ev_tmp rfl) rfl Tryz.isAgg59 rfl) ?_
      refine sq_plain rfl rfl rfl (w_shr rfl (ev_tmp rfl) ev_ci (by decide) (by decide)) ?_
      refine sq_plain rfl rfl rfl (w_band rfl (ev_tmp rfl) ev_ci) ?_
      refine sq_plain rfl rfl rfl (w_conv rfl (by kernel_rfl) Tryz.underlying3 (ev_tmp rfl)) ?_
      refine sq_plain rfl rfl rfl (w_assign rfl (ev_tmp rfl)) ?_
      refine sq_nil ?_
      refine awp_ret ?_
      (refine retG [0] ((⟨c.p + 1, _⟩, _)) ?_ rfl (by first | (dsimp only; rfl) | rfl) (resR rfl (rv_tmp' rfl (by first | rfl | (refine congrArg AV.bool ?_; simp_all; done)))); first | exact ⟨Nat.le_refl _, hzb⟩ | exact ⟨Nat.le_refl _, Int.le_refl 0, (show (0 : Int) ≤ 255 by decide)⟩ | (rw [wrapS (bandI_255 _)]; exact ⟨Nat.le_refl _, bandI_255 _⟩))
theorem curPick_own (b : Nat) (code : List Int) (hcode : ByteL code) (c : TCur) (n : Int) (hn : n ≤ 1000000) (hp : c.p ≤ 7000000) : GSpec Tryz.prog 77 [AV.ptr b 0, AV.int n] [.box b 61 (curC code c)] (fun x : TCur × Int => x.1.p ≤ c.p + 2 ∧ 0 ≤ x.2 ∧ (x.2 < n ∨ x.2 = 0)) (fun x => [.box b 61 (curC code x.1)]) (fun x => AV.int x.2) := by
  refine gspec_of_awp Tryz.func77 rfl Tryz.ntmps77 rfl ?_
  refine awp_seq ?_
  refine awp_region ?_
  refine sq_plain rfl rfl rfl (w_assign rfl ev_ci) ?_
  refine sq_nil ?_
  refine awp_seq ?_
  refine awp_seq ?_
  refine awp_region ?_
  refine sq_plain rfl rfl rfl (w_move rfl (ev_tmp rfl)) ?_
  refine sq_plain rfl rfl rfl (w_leq rfl (ev_tmp rfl) ev_ci) ?_
  refine sq_nil ?_
  refine awp_cond (ev_tmp rfl) ?_ ?_
  · intro h7
    have k7 := of_decide_eq_true h7; try simp only [List.length_map] at k7
    refine awp_seq ?_
    refine awp_region ?_
    refine sq_plain rfl rfl rfl (w_assign rfl ev_ci) ?_
    refine sq_nil ?_
    refine awp_ret ?_
    (refine retG [0] ((_, _)) ?_ rfl (by first | (dsimp only; rfl) | rfl) (resR rfl (rv_tmp' rfl (by first | rfl | (refine congrArg AV.bool ?_; simp_all; done)))); (dsimp only; first | omega | exact ⟨by omega, Int.tmod_nonneg _ (by omega), .inl (Int.tmod_lt_of_pos _ (by omega))⟩))
  · intro h7
    have k7 := of_decide_eq_false h7; try simp only [List.length_map] at k7
    refine awp_skip ?_
    refine awp_seq ?_
    refine awp_region ?_
    refine sq_plain rfl rfl rfl (w_move rfl (ev_tmp rfl)) ?_
    refine sq_callG [0] rfl rfl rfl rfl Tryz.call129 rfl (curNext_own _ _ hcode _ (by omega)) (evl_cons (ev_tmp rfl) evl_nil) rfl ?_
    intro x9 ok9
    refine sq_plain rfl rfl rfl (w_assign rfl (ev_tmp rfl)) ?_
    refine sq_nil ?_
    refine awp_seq ?_
    refine awp_seq ?_
    refine awp_region ?_
    refine sq_plain rfl rfl rfl (w_move rfl (ev_tmp rfl)) ?_
    refine sq_plain rfl rfl rfl (w_gtr rfl (ev_tmp rfl) ev_ci) ?_
    refine sq_nil ?_
    refine awp_cond (ev_tmp rfl) ?_ ?_
    · intro h11
      have k11 := of_decide_eq_true h11; try simp only [List.length_map] at k11
      refine awp_region ?_
      refine sq_plain rfl rfl rfl (w_move rfl (ev_tmp rfl)) ?_
      refine sq_plain rfl rfl rfl (w_muli rfl (ev_tmp rfl) ev_ci (by first | omega | ((try simp only [List.length_map, List.length_take, List.length_cons, List.length_nil, chunks_len, szR] at *); omega) | (have hc2 := hc; simp only [Bool.and_eq_true, Bool.or_eq_true, Bool.or_eq_false_iff, Bool.and_eq_false_iff, Bool.not_eq_true', Bool.not_eq_false', decide_eq_true_eq, decide_eq_false_iff_not, beq_iff_eq, bne_iff_ne, List.length_map, List.length_take] at hc2; omega))) ?_
      refine sq_plain rfl rfl rfl (w_move rfl (ev_tmp rfl)) ?_
      refine sq_callG [0] rfl rfl rfl rfl Tryz.call129 rfl (curNext_own _ _ hcode _ (by omega)) (evl_cons (ev_tmp rfl) evl_nil) rfl ?_
      intro x15 ok15
      refine sq_plain rfl rfl rfl (w_addi rfl (ev_tmp rfl) (ev_tmp rfl) (by first | omega | ((try simp only [List.length_map, List.length_take, List.length_cons, List.length_nil, chunks_len, szR] at *); omega) | (have hc2 := hc; simp only [Bool.and_eq_true, Bool.or_eq_true, Bool.or_eq_false_iff, Bool.and_eq_false_iff, Bool.not_eq_true', Bool.not_eq_false', decide_eq_true_eq, decide_eq_false_iff_not, beq_iff_eq, bne_iff_ne, List.length_map, List.length_take] at hc2; omega))) ?_
      refine sq_plain rfl rfl rfl (w_assign rfl (ev_tmp rfl)) ?_
      refine sq_nil ?_
      refine awp_seq ?_
      refine awp_region ?_
      refine sq_plain rfl rfl rfl (w_move rfl (ev_tmp rfl)) ?_
      refine sq_plain rfl rfl rfl (w_move rfl (ev_tmp rfl)) ?_
      refine sq_plain rfl rfl rfl (w_rem rfl (ev_tmp rfl) (ev_tmp rfl) (by omega)) ?_
      refine sq_plain rfl rfl rfl (w_assign rfl (ev_tmp rfl)) ?_
      refine sq_nil ?_
      refine awp_ret ?_
      (refine retG [0] ((_, _)) ?_ rfl (by first | (dsimp only; rfl) | rfl) (resR rfl (rv_tmp' rfl (by first | rfl | (refine congrArg AV.bool ?_; simp_all; done)))); (dsimp only; first | omega | exact ⟨by omega, Int.tmod_nonneg _ (by omega), .inl (Int.tmod_lt_of_pos _ (by omega))⟩))
    · intro h11
      have k11 := of_decide_eq_false h11; try simp only [List.length_map] at k11
      refine awp_skip ?_
      refine awp_seq ?_
      refine awp_region ?_
      refine sq_plain rfl rfl rfl (w_move rfl (ev_tmp rfl)) ?_
      refine sq_plain rfl rfl rfl (w_move rfl (ev_tmp rfl)) ?_
      refine sq_plain rfl rfl rfl (w_rem rfl (ev_tmp rfl) (ev_tmp rfl) (by omega)) ?_
      refine sq_plain rfl rfl rfl (w_assign rfl (ev_tmp rfl)) ?_
      refine sq_nil ?_
      refine awp_ret ?_
      (refine retG [0] ((_, _)) ?_ rfl (by first | (dsimp only; rfl) | rfl) (resR rfl (rv_tmp' rfl (by first | rfl | (refine congrArg AV.bool ?_; simp_all; done)))); (dsimp only; first | omega | exact ⟨by omega, Int.tmod_nonneg _ (by omega), .inl (Int.tmod_lt_of_pos _ (by omega))⟩))
theorem curOne_own (b : Nat) (code : List Int) (hcode : ByteL code) (c : TCur) (n : Int) (hn : n ≤ 1000000) (hp : c.p ≤ 7000000) : GSpec Tryz.prog 48 [AV.ptr b 0, AV.int n] [.box b 61 (curC code c)] (fun x : TCur × Bool => x.1.p ≤ c.p + 2) (fun x => [.box b 61 (curC code x.1)]) (fun x => AV.bool x.2) := by
  refine gspec_of_awp Tryz.func48 rfl Tryz.ntmps48 rfl ?_
  refine awp_seq ?_
  refine awp_region ?_
  refine sq_plain rfl rfl rfl (w_assign rfl ev_cb) ?_
  refine sq_nil ?_
  refine awp_seq ?_
  refine awp_region ?_
  refine sq_plain rfl rfl rfl (w_move rfl (ev_tmp rfl)) ?_
  refine sq_plain rfl rfl rfl (w_move rfl (ev_tmp rfl)) ?_
  refine sq_callG [0] rfl rfl rfl rfl Tryz.call77 rfl (curPick_own _ _ hcode _ _ (by omega) (by omega)) (evl_cons (ev_tmp rfl) (evl_cons (ev_tmp rfl) evl_nil)) rfl ?_
  intro x7 ok7
  refine sq_plain rfl rfl rfl (w_eql rfl (ev_tmp rfl) ev_ci) ?_
  refine sq_plain rfl rfl rfl (w_assign rfl (ev_tmp rfl)) ?_
  refine sq_nil ?_
  refine awp_ret ?_
  (refine retG [0] ((_, _)) ?_ rfl (by first | (dsimp only; rfl) | rfl) (resR rfl (rv_tmp' rfl (by rfl))); exact ok7.1)
theorem curOf_own (b : Nat) (code : List Int) (hcode : ByteL code) (c : TCur) (l : List Str) (hl : (∀ s ∈ l, s.length ≤ 64) ∧ 1 ≤ l.length ∧ l.length ≤ 1000) (hp : c.p ≤ 7000000) : GSpec Tryz.prog 52 [AV.ptr b 0, strs l] [.box b 61 (curC code c)] (fun x : TCur × Str => x.1.p ≤ c.p + 2 ∧ x.2.length ≤ 64) (fun x => [.box b 61 (curC code x.1)]) (fun x => AV.str x.2) := by
  obtain ⟨hls, hl1, hl2⟩ := hl
  refine gspec_of_awp Tryz.func52 rfl Tryz.ntmps52 rfl ?_
  refine awp_seq ?_
  refine awp_region ?_
  refine sq_plain rfl rfl rfl (w_assign rfl (ev_cs' (l := []) rfl)) ?_
  refine sq_nil ?_
  refine awp_seq ?_
  refine awp_region ?_
  refine sq_plain rfl rfl rfl (w_move rfl (ev_tmp rfl)) ?_
  refine sq_plain rfl rfl rfl (w_move rfl (ev_tmp rfl)) ?_
  refine sq_plain rfl rfl rfl (w_move rfl (ev_tmp rfl)) ?_
  refine sq_plain rfl rfl rfl (w_llen rfl Tryz.underlying34 (ev_tmp rfl)) ?_
  refine sq_callG [0] rfl rfl rfl rfl Tryz.call77 rfl (curPick_own _ _ hcode _ _ (by simp only [List.length_map]; omega) (by omega)) (evl_cons (ev_tmp rfl) (evl_cons (ev_tmp rfl) evl_nil)) rfl ?_
  intro x9 ok9
  simp only [List.length_map] at ok9
  obtain ⟨y, hy⟩ := get_some (show x9.2.toNat < l.length by omega)
  refine sq_plain rfl rfl rfl (w_idxm rfl Tryz.underlying34 Tryz.sizeOf9 (ev_tmp rfl) (ev_tmp rfl) hy (by omega)) ?_
  refine sq_plain rfl rfl rfl (w_loadE1 rfl (ev_tmp rfl) Tryz.isAgg9 rfl) ?_
  refine sq_plain rfl rfl rfl (w_assign rfl (ev_tmp rfl)) ?_
  refine sq_nil ?_
  refine awp_ret ?_
  (refine retG [0] ((_, _)) ?_ rfl (by first | (dsimp only; rfl) | rfl) (resR rfl (rv_tmp' rfl (by rfl))); exact ⟨ok9.1, hls _ (List.mem_of_getElem? hy)⟩)
theorem curAmong_own (b : Nat) (code : List Int) (hcode : ByteL code) (c : TCur) (l : List Int) (hl : 1 ≤ l.length ∧ l.length ≤ 1000) (hp : c.p ≤ 7000000) : GSpec Tryz.prog 132 [AV.ptr b 0, ints l] [.box b 61 (curC code c)] (fun x : TCur × Int => x.1.p ≤ c.p + 2 ∧ x.2 ∈ l) (fun x => [.box b 61 (curC code x.1)]) (fun x => AV.int x.2) := by
  obtain ⟨hl1, hl2⟩ := hl
  refine gspec_of_awp Tryz.func132 rfl Tryz.ntmps132 rfl ?_
  refine awp_seq ?_
  refine awp_region ?_
  refine sq_plain rfl rfl rfl (w_assign rfl ev_ci) ?_
  refine sq_nil ?_
  refine awp_seq ?_
  refine awp_region ?_
  refine sq_plain rfl rfl rfl (w_move rfl (ev_tmp rfl)) ?_
  refine sq_plain rfl rfl rfl (w_move rfl (ev_tmp rfl)) ?_
  refine sq_plain rfl rfl rfl (w_move rfl (ev_tmp rfl)) ?_
  refine sq_plain rfl rfl rfl (w_llen rfl Tryz.underlying113 (ev_tmp rfl)) ?_
  refine sq_callG [0] rfl rfl rfl rfl Tryz.call77 rfl (curPick_own _ _ hcode _ _ (by simp only [List.length_map]; omega) (by omega)) (evl_cons (ev_tmp rfl) (evl_cons (ev_tmp rfl) evl_nil)) rfl ?_
  intro x9 ok9
  simp only [List.length_map] at ok9
  obtain ⟨y, hy⟩ := get_some (show x9.2.toNat < l.length by omega)
  refine sq_plain rfl rfl rfl (w_idxm rfl Tryz.underlying113 Tryz.sizeOf3 (ev_tmp rfl) (ev_tmp rfl) hy (by omega)) ?_
  refine sq_plain rfl rfl rfl (w_loadE1 rfl (ev_tmp rfl) Tryz.isAgg3 rfl) ?_
  refine sq_plain rfl rfl rfl (w_assign rfl (ev_tmp rfl)) ?_
  refine sq_nil ?_
  refine awp_ret ?_
  (refine retG [0] ((_, _)) ?_ rfl (by first | (dsimp only; rfl) | rfl) (resR rfl (rv_tmp' rfl (by rfl))); exact ⟨ok9.1, List.mem_of_getElem? hy⟩)
theorem curKey_own (b : Nat) (code : List Int) (hcode : ByteL code) (c : TCur) (hp : c.p ≤ 6000000) : GSpec Tryz.prog 127 [AV.ptr b 0] [.box b 61 (curC code c)] (fun x : TCur × Str => x.1.p ≤ c.p + 2 ∧ x.2.length ≤ 64) (fun x => [.box b 61 (curC code x.1)]) (fun x => AV.str x.2) := by
  refine gspec_of_awp Tryz.func127 rfl Tryz.ntmps127 rfl ?_
  refine awp_seq ?_
  refine awp_region ?_
  refine sq_plain rfl rfl rfl (w_assign rfl (ev_cs' (l := []) rfl)) ?_
  refine sq_nil ?_
  refine awp_seq ?_
  refine awp_region ?_
  refine sq_plain rfl rfl rfl (w_move rfl (ev_tmp rfl)) ?_
  refine sq_plain rfl rfl rfl (w_bslice rfl Tryz.underlying34 Tryz.sizeOf9 Tryz.zeroValue9 rfl rfl rfl rfl (bp_cons (ev_cs' (l := [97]) rfl) (as_str _) (bp_cons (ev_cs' (l := [98]) rfl) (as_str _) (bp_cons (ev_cs' (l := [99]) rfl) (as_str _) (bp_cons (ev_cs' (l := [109]) rfl) (as_str _) (bp_cons (ev_cs' (l := [110]) rfl) (as_str _) (bp_cons (ev_cs' (l := [122]) rfl) (as_str _) (bp_cons (ev_cs' (l := [114, 47, 49]) rfl) (as_str _) (bp_cons (ev_cs' (l := [105, 47, 120, 47, 49]) rfl) (as_str _) bp_nil)))))))) rfl rfl) ?_
  refine sq_callG [0] rfl rfl rfl rfl Tryz.call52 rfl (curOf_own _ _ hcode _ ([[97], [98], [99], [109], [110], [122], [114, 47, 49], [105, 47, 120, 47, 49]] : List Str) (by decide) (by omega)) (evl_cons (ev_tmp rfl) (evl_cons (ev_tmp rfl) evl_nil)) rfl ?_
  intro x5 ok5
  refine sq_plain rfl rfl rfl (w_assign rfl (ev_tmp rfl)) ?_
  refine sq_nil ?_
  refine awp_ret ?_
  (refine retG [0] ((_, _)) ?_ rfl (by first | (dsimp only; rfl) | rfl) (resR rfl (rv_tmp' rfl (by rfl))); exact ok5)
end Go.Proofs.YtmlmmgeadombbaaGreatDoor

set_option linter.unusedVariables false
set_option linter.unusedSimpArgs false
set_option maxRecDepth 100000
namespace Go.Proofs.YtmlmmgeadombbaaGreatDoor
open Go Go.AV Go.M
attribute [local irreducible] OpW OpA OpS AWP FSpec ESpec GSpec OpE RetOk RetOkG RvDen Le Ev GuardIs SrcIs
theorem big_spec (code more : List Int) : FSpec Tryz.prog 5 [bytesI code, bytesI more] (AV.bool (bigB code more)) := by
  refine spec_of_awp Tryz.func5 rfl Tryz.ntmps5 rfl ?_
  refine awp_len (t := 0) rfl fun hl0 => ?_
  try simp only [List.length_map] at hl0
  refine awp_len (t := 1) rfl fun hl1 => ?_
  try simp only [List.length_map] at hl1
  refine awp_seq ?_
  refine awp_region ?_
  refine sq_plain rfl rfl rfl (w_assign rfl ev_cb) ?_
  refine sq_nil ?_
  refine awp_seq ?_
  refine awp_region ?_
  refine sq_plain rfl rfl rfl (w_move rfl (ev_tmp rfl)) ?_
  refine sq_plain rfl rfl rfl (w_llen rfl Tryz.underlying22 (ev_tmp rfl)) ?_
  refine sq_plain rfl rfl rfl (w_gtr rfl (ev_tmp rfl) ev_ci) ?_
  refine sq_plain rfl rfl rfl (w_move rfl (ev_tmp rfl)) ?_
  refine sq_grd rfl rfl (guard_f rfl rfl rfl) (fun hc => w_move rfl (ev_tmp rfl)) ?_
  refine sq_grd rfl rfl (guard_f rfl rfl rfl) (fun hc => w_llen rfl Tryz.underlying22 (ev_whn rfl hc)) ?_
  refine sq_grd rfl rfl (guard_f rfl rfl rfl) (fun hc => w_move rfl (ev_tmp rfl)) ?_
  refine sq_grd rfl rfl (guard_f rfl rfl rfl) (fun hc => w_llen rfl Tryz.underlying22 (ev_whn rfl hc)) ?_
  refine sq_grd rfl rfl (guard_f rfl rfl rfl) (fun hc => w_subi rfl ev_ci (ev_whn rfl hc) (by simp only [List.length_map]; omega)) ?_
  refine sq_grd rfl rfl (guard_f rfl rfl rfl) (fun hc => w_gtr rfl (ev_whn rfl hc) (ev_whn rfl hc)) ?_
  refine sq_plain rfl rfl rfl (w_or rfl (ev_tmp rfl) (evif_w rfl)) ?_
  refine sq_plain rfl rfl rfl (w_assign rfl (ev_tmp rfl)) ?_
  refine sq_nil ?_
  refine awp_ret ?_
  exact retR rfl (rv_tmp' rfl (by (refine congrArg AV.bool ?_; unfold bigB; simp only [List.length_map])))
end Go.Proofs.YtmlmmgeadombbaaGreatDoor

set_option linter.unusedVariables false
set_option linter.unusedSimpArgs false
set_option maxRecDepth 100000
namespace Go.Proofs.YtmlmmgeadombbaaGreatDoor
open Go Go.AV Go.M
attribute [local irreducible] OpW OpA OpS AWP FSpec ESpec GSpec OpE RetOk RetOkG RvDen Le Ev GuardIs SrcIs Int.tmod Int.tdiv IntKind.wrap bandI
theorem l1Text_own (q : Nat) (b : Str) (s : TSrc) (hs : s.at' ≤ b.length) (hb : b.length ≤ 1048576) : GSpec Tryz.prog 84 [AV.ptr q 0] [.box q 88 (srcC b s)] (fun x : TSrc × Str => TextOk b s x) (fun x => [.box q 88 (srcC b x.1)]) (fun x => AV.str x.2) := by
  refine gspec_of_awp Tryz.func84 rfl Tryz.ntmps84 rfl ?_
  refine awp_seq ?_
  refine awp_region ?_
  refine sq_plain rfl rfl rfl (w_assign rfl (ev_cs' (l := []) rfl)) ?_
  refine sq_nil ?_
  refine awp_seq ?_
  refine awp_region ?_
  refine sq_plain rfl rfl rfl (w_move rfl (ev_tmp rfl)) ?_
  refine sq_callG [0] rfl rfl rfl rfl Tryz.call81 rfl (l1Num_own q b s hs hb) (evl_cons (ev_tmp rfl) evl_nil) rfl ?_
  intro x5 ok5
  obtain ⟨hk1, hk2⟩ := textOk_s hs ok5
  have hn9 := ok5.2.1
  have ha9 := ok5.1.2
  refine sq_plain rfl rfl rfl (w_assign rfl (ev_tmp rfl)) ?_
  refine sq_nil ?_
  refine awp_seq ?_
  refine awp_seq ?_
  refine awp_region_any (by kernel_rfl) (by kernel_rfl) rfl ?_
  refine ch_plain rfl rfl (w_move rfl (ev_tmp rfl)) ?_
  refine ch_plain rfl rfl (w_nilB rfl (ev_tmp rfl)) ?_
  refine ch_plain rfl rfl (w_fldBn 2 rfl Tryz.underlying88 rfl Tryz.sizeOf4 (ev_tmp rfl) rfl) ?_
  refine ch_plain rfl rfl (w_loadB1 0 rfl (ev_tmp rfl) rfl Tryz.isAgg4 rfl) ?_
  refine ch_plain rfl rfl (w_move rfl (ev_tmp rfl)) ?_
  refine ch_grd rfl (guard_f rfl rfl rfl) (fun hc => w_move rfl (ev_tmp rfl)) ?_
  refine ch_grd rfl (guard_f rfl rfl rfl) (fun hc => w_gtr rfl (ev_whn rfl hc) ev_ci) ?_
  refine ch_plain rfl rfl (w_or rfl (ev_tmp rfl) (evif_w rfl)) ?_
  refine ch_plain rfl rfl (w_move rfl (ev_tmp rfl)) ?_
  refine ch_grd rfl (guard_f rfl rfl rfl) (fun hc => w_move rfl (ev_tmp rfl)) ?_
  refine ch_grd rfl (guard_f rfl rfl rfl) (fun hc => w_nilB rfl (ev_whn rfl hc)) ?_
  refine ch_grd rfl (guard_f rfl rfl rfl) (fun hc => w_fldBn 1 rfl Tryz.underlying88 rfl Tryz.sizeOf3 (ev_whn rfl hc) rfl) ?_
  refine ch_grd rfl (guard_f rfl rfl rfl) (fun hc => w_loadB1 0 rfl (ev_whn rfl hc) rfl Tryz.isAgg3 rfl) ?_
  refine ch_grd rfl (guard_f rfl rfl rfl) (fun hc => w_move rfl (ev_tmp rfl)) ?_
  refine ch_grd rfl (guard_f rfl rfl rfl) (fun hc => w_addi rfl (ev_whn rfl hc) (ev_whn rfl hc) (by omega)) ?_
  refine ch_grd rfl (guard_f rfl rfl rfl) (fun hc => w_move rfl (ev_tmp rfl)) ?_
  refine ch_grd rfl (guard_f rfl rfl rfl) (fun hc => w_nilB rfl (ev_whn rfl hc)) ?_
  refine ch_grd rfl (guard_f rfl rfl rfl) (fun hc => w_fldBn 0 rfl Tryz.underlying88 rfl Tryz.sizeOf9 (ev_whn rfl hc) rfl) ?_
  refine ch_grd rfl (guard_f rfl rfl rfl) (fun hc => w_loadB1 0 rfl (ev_whn rfl hc) rfl Tryz.isAgg9 rfl) ?_
  refine ch_grd rfl (guard_f rfl rfl rfl) (fun hc => w_slen rfl Tryz.underlying9 (ev_whn rfl hc)) ?_
  refine ch_grd rfl (guard_f rfl rfl rfl) (fun hc => w_gtr rfl (ev_whn rfl hc) (ev_whn rfl hc)) ?_
  refine ch_plain rfl rfl (w_or rfl (ev_tmp rfl) (evif_w rfl)) ?_
  refine ch_nil ?_
  refine awp_cond (ev_tmp rfl) ?_ ?_
  · intro h27
    have hok := hk1 h27
    refine awp_seq ?_
    refine awp_region ?_
    refine sq_plain rfl rfl rfl (w_move rfl (ev_tmp rfl)) ?_
    refine sq_plain rfl rfl rfl (w_nilB rfl (ev_tmp rfl)) ?_
    refine sq_plain rfl rfl rfl (w_fldBn 2 rfl Tryz.underlying88 rfl Tryz.sizeOf4 (ev_tmp rfl) rfl) ?_
    refine sq_storeB1 0 rfl rfl rfl (ev_tmp rfl) ev_cb (as_bool _) rfl Tryz.sizeOf4 rfl ?_
    refine sq_nil ?_
    refine awp_seq ?_
    refine awp_region ?_
    refine sq_plain rfl rfl rfl (w_assign rfl (ev_cs' (l := []) rfl)) ?_
    refine sq_nil ?_
    refine awp_ret ?_
    (refine retG [0] ((⟨x5.1.at', true⟩, [])) ?_ rfl (by first | rfl | (rw [hbe]; rfl)) (resR rfl (rv_tmp' rfl (by first | rfl | (refine congrArg AV.str ?_; rw [show ((x5.1.at' : Int) + (x5.2 : Int)).toNat = x5.1.at' + x5.2 by omega, show ((x5.1.at' : Int) + (x5.2 : Int) - (x5.2 : Int)).toNat = x5.1.at' by omega, List.drop_take, Nat.add_sub_cancel_left])))); exact hok)
  · intro h27
    obtain ⟨hok, hbf, hle, hn60⟩ := hk2 h27
    have hbe : x5.1 = ⟨x5.1.at', false⟩ := by (obtain ⟨⟨xa, xb⟩, xn⟩ := x5; simp only at hbf ⊢; rw [hbf])
    refine awp_skip ?_
    refine awp_seq ?_
    refine awp_region ?_
    refine sq_plain rfl rfl rfl (w_move rfl (ev_tmp rfl)) ?_
    refine sq_plain rfl rfl rfl (w_nilB rfl (ev_tmp rfl)) ?_
    refine sq_plain rfl rfl rfl (w_fldBn 1 rfl Tryz.underlying88 rfl Tryz.sizeOf3 (ev_tmp rfl) rfl) ?_
    refine sq_plain rfl rfl rfl (w_loadB1 0 rfl (ev_tmp rfl) rfl Tryz.isAgg3 rfl) ?_
    refine sq_plain rfl rfl rfl (w_move rfl (ev_tmp rfl)) ?_
    refine sq_plain rfl rfl rfl (w_addi rfl (ev_tmp rfl) (ev_tmp rfl) (by first | omega | ((try simp only [List.length_map, List.length_take, List.length_cons, List.length_nil, chunks_len, szR] at *); omega) | (have hc2 := hc; simp only [Bool.and_eq_true, Bool.or_eq_true, Bool.or_eq_false_iff, Bool.and_eq_false_iff, Bool.not_eq_true', Bool.not_eq_false', decide_eq_true_eq, decide_eq_false_iff_not, beq_iff_eq, bne_iff_ne, List.length_map, List.length_take] at hc2; omega))) ?_
    refine sq_plain rfl rfl rfl (w_nilB rfl (ev_tmp rfl)) ?_
    refine sq_plain rfl rfl rfl (w_fldBn 1 rfl Tryz.underlying88 rfl Tryz.sizeOf3 (ev_tmp rfl) rfl) ?_
    refine sq_storeB1 0 rfl rfl rfl (ev_tmp rfl) (ev_tmp rfl) (as_ik _ _) rfl Tryz.sizeOf3 rfl ?_
    refine sq_nil ?_
    refine awp_seq ?_
    refine awp_region_any (by kernel_rfl) (by kernel_rfl) rfl ?_
    refine ch_plain rfl rfl (w_move rfl (ev_tmp rfl)) ?_
    refine ch_plain rfl rfl (w_nilB rfl (ev_tmp rfl)) ?_
    refine ch_plain rfl rfl (w_fldBn 0 rfl Tryz.underlying88 rfl Tryz.sizeOf9 (ev_tmp rfl) rfl) ?_
    refine ch_plain rfl rfl (w_loadB1 0 rfl (ev_tmp rfl) rfl Tryz.isAgg9 rfl) ?_
    refine ch_plain rfl rfl (w_move rfl (ev_tmp rfl)) ?_
    refine ch_plain rfl rfl (w_nilB rfl (ev_tmp rfl)) ?_
    refine ch_plain rfl rfl (w_fldBn 1 rfl Tryz.underlying88 rfl Tryz.sizeOf3 (ev_tmp rfl) rfl) ?_
    refine ch_plain rfl rfl (w_loadB1 0 rfl (ev_tmp rfl) rfl Tryz.isAgg3 rfl) ?_
    refine ch_plain rfl rfl (w_move rfl (ev_tmp rfl)) ?_
    refine ch_plain rfl rfl (w_subi rfl (ev_tmp rfl) (ev_tmp rfl) (by first | omega | ((try simp only [List.length_map, List.length_take, List.length_cons, List.length_nil, chunks_len, szR] at *); omega) | (have hc2 := hc; simp only [Bool.and_eq_true, Bool.or_eq_true, Bool.or_eq_false_iff, Bool.and_eq_false_iff, Bool.not_eq_true', Bool.not_eq_false', decide_eq_true_eq, decide_eq_false_iff_not, beq_iff_eq, bne_iff_ne, List.length_map, List.length_take] at hc2; omega))) ?_
    refine ch_plain rfl rfl (w_move rfl (ev_tmp rfl)) ?_
    refine ch_plain rfl rfl (w_nilB rfl (ev_tmp rfl)) ?_
    refine ch_plain rfl rfl (w_fldBn 1 rfl Tryz.underlying88 rfl Tryz.sizeOf3 (ev_tmp rfl) rfl) ?_
    refine ch_plain rfl rfl (w_loadB1 0 rfl (ev_tmp rfl) rfl Tryz.isAgg3 rfl) ?_
    refine ch_plain rfl rfl (w_ssl_lohi rfl Tryz.underlying9 (ev_tmp rfl) (ev_tmp rfl) (ev_tmp rfl) (by first | omega | ((try simp only [List.length_map, List.length_take, List.length_cons, List.length_nil, chunks_len, szR] at *); omega) | (have hc2 := hc; simp only [Bool.and_eq_true, Bool.or_eq_true, Bool.or_eq_false_iff, Bool.and_eq_false_iff, Bool.not_eq_true', Bool.not_eq_false', decide_eq_true_eq, decide_eq_false_iff_not, beq_iff_eq, bne_iff_ne, List.length_map, List.length_take] at hc2; omega)) (by first | omega | ((try simp only [List.length_map, List.length_take, List.length_cons, List.length_nil, chunks_len, szR] at *); omega) | (have hc2 := hc; simp only [Bool.and_eq_true, Bool.or_eq_true, Bool.or_eq_false_iff, Bool.and_eq_false_iff, Bool.not_eq_true', Bool.not_eq_false', decide_eq_true_eq, decide_eq_false_iff_not, beq_iff_eq, bne_iff_ne, List.length_map, List.length_take] at hc2; omega)) (by first | omega | ((try simp only [List.length_map, List.length_take, List.length_cons, List.length_nil, chunks_len, szR] at *); omega) | (have hc2 := hc; simp only [Bool.and_eq_true, Bool.or_eq_true, Bool.or_eq_false_iff, Bool.and_eq_false_iff, Bool.not_eq_true', Bool.not_eq_false', decide_eq_true_eq, decide_eq_false_iff_not, beq_iff_eq, bne_iff_ne, List.length_map, List.length_take] at hc2; omega))) ?_
    refine ch_plain rfl rfl (w_assign rfl (ev_tmp rfl)) ?_
    refine ch_nil ?_
    refine awp_ret ?_
    (refine retG [0] ((⟨x5.1.at' + x5.2, false⟩, (b.drop x5.1.at').take x5.2)) ?_ rfl (by first | rfl | (rw [hbe]; rfl)) (resR rfl (rv_tmp' rfl (by first | rfl | (refine congrArg AV.str ?_; rw [show ((x5.1.at' : Int) + (x5.2 : Int)).toNat = x5.1.at' + x5.2 by omega, show ((x5.1.at' : Int) + (x5.2 : Int) - (x5.2 : Int)).toNat = x5.1.at' by omega, List.drop_take, Nat.add_sub_cancel_left])))); exact hok)
theorem l1Texts_own (q : Nat) (b : Str) (s : TSrc) (hs : s.at' ≤ b.length) (hb : b.length ≤ 1048576) : GSpec Tryz.prog 83 [AV.ptr q 0] [.box q 88 (srcC b s)] (fun x : TSrc × List Str × Value => TextsOk b s x.1 x.2.1) (fun x => [.box q 88 (srcC b x.1), .arr x.2.2 9 1 (x.2.1.map fun t => [AV.str t])]) (fun x => AV.is x.2.2) := by
  refine gspec_of_awp Tryz.func83 rfl Tryz.ntmps83 rfl ?_
  refine awp_seq ?_
  refine awp_region ?_
  refine sq_plain rfl rfl rfl (w_assign rfl ev_cnils) ?_
  refine sq_nil ?_
  refine awp_seq ?_
  refine awp_region ?_
  refine sq_plain rfl rfl rfl (w_move rfl (ev_tmp rfl)) ?_
  refine sq_callG [0] rfl rfl rfl rfl Tryz.call81 rfl (l1Num_own q b s hs hb) (evl_cons (ev_tmp rfl) evl_nil) rfl ?_
  intro x6 ok6
  obtain ⟨N, hN⟩ : ∃ N, x6.2 = N := ⟨_, rfl⟩
  rw [hN]
  refine sq_plain rfl rfl rfl (w_assign rfl (ev_tmp rfl)) ?_
  refine sq_nil ?_
  refine awp_seq ?_
  refine awp_seq ?_
  refine awp_region ?_
  refine sq_plain rfl rfl rfl (w_move rfl (ev_tmp rfl)) ?_
  refine sq_plain rfl rfl rfl (w_gtr rfl (ev_tmp rfl) ev_ci) ?_
  refine sq_nil ?_
  refine awp_cond (ev_tmp rfl) ?_ ?_
  · intro h8
    have k8 := of_decide_eq_true h8; try simp only [List.length_map] at k8
    have hrun := runOk_big ok6 (by omega) N
    obtain ⟨t0, ht0⟩ : ∃ t0, (⟨x6.1.at', true⟩ : TSrc) = t0 := ⟨_, rfl⟩
    rw [ht0] at hrun
    have hsmall : (t0.bad = false → ([] : List Str).length + N ≤ 40) := fun h => by (rw [← ht0] at h; cases h)
    refine awp_region ?_
    refine sq_plain rfl rfl rfl (w_move rfl (ev_tmp rfl)) ?_
    refine sq_plain rfl rfl rfl (w_nilB rfl (ev_tmp rfl)) ?_
    refine sq_plain rfl rfl rfl (w_fldBn 2 rfl Tryz.underlying88 rfl Tryz.sizeOf4 (ev_tmp rfl) rfl) ?_
    refine sq_storeB1 0 rfl rfl rfl (ev_tmp rfl) ev_cb (as_bool _) rfl Tryz.sizeOf4 rfl ?_
    refine sq_nil ?_
    refine awp_seq ?_
    refine awp_region ?_
    refine sq_nilarr 9 1 rfl rfl rfl rfl ev_cnils ?_
    intro v4
    refine sq_nil ?_
    refine awp_seq ?_
    refine awp_block ?_
    refine AWP.le (le_pick [1, 0] rfl) ?_
    refine awp_loop_i4 [(0, _), (2, _)] _ (fun (t : TSrc) (m : Nat) (l : List Str) (v : Value) => RunOk b s t l m ∧ (t.bad = false → l.length + m ≤ 40) ∧ l.length ≤ 41) (fun (t : TSrc) (m : Nat) (l : List Str) (v : Value) => [.box q 88 (srcC b t), .arr v 9 1 (l.map fun t => [AV.str t])]) (fun (t : TSrc) (m : Nat) (l : List Str) (v : Value) => [(3, AV.int m), (4, AV.is v)]) (fun (t : TSrc) (m : Nat) (l : List Str) (v : Value) => m) (t0) (N) ([]) (v4) ?_ (le_eq (by rw [← ht0]; rfl) ⟨rfl, rfl, rfl, rfl, trivial⟩) ?_
    · exact ⟨hrun, hsmall, by simp⟩
    intro t m l v hinv
    refine awp_seq ?_
    refine awp_seq ?_
    refine awp_region ?_
    refine sq_plain rfl rfl rfl (w_move rfl (ev_tmp rfl)) ?_
    refine sq_plain rfl rfl rfl (w_gtr rfl (ev_tmp rfl) ev_ci) ?_
    refine sq_plain rfl rfl rfl (w_move rfl (ev_tmp rfl)) ?_
    refine sq_grd rfl rfl (guard_t rfl rfl rfl) (fun hc => w_move rfl (ev_tmp rfl)) ?_
    refine sq_grd rfl rfl (guard_t rfl rfl rfl) (fun hc => w_nilB rfl (ev_whn rfl hc)) ?_
    refine sq_grd rfl rfl (guard_t rfl rfl rfl) (fun hc => w_fldBn 2 rfl Tryz.underlying88 rfl Tryz.sizeOf4 (ev_whn rfl hc) rfl) ?_
    refine sq_grd rfl rfl (guard_t rfl rfl rfl) (fun hc => w_loadB1 0 rfl (ev_whn rfl hc) rfl Tryz.isAgg4 rfl) ?_
    refine sq_grd rfl rfl (guard_t rfl rfl rfl) (fun hc => w_not rfl (ev_whn rfl hc)) ?_
    refine sq_plain rfl rfl rfl (w_and rfl (ev_tmp rfl) (evif_w rfl)) ?_
    refine sq_nil ?_
    refine awp_cond (ev_tmp rfl) ?_ ?_
    · intro h20
      simp only [Bool.and_eq_true, decide_eq_true_eq, Bool.not_eq_true'] at h20
      obtain ⟨hi, hnb⟩ := h20
      have hN4 := hinv.2.1 hnb
      have htb := hinv.1.1.2
      have hm1 : ((m : Nat) : Int) - 1 = ((m - 1 : Nat) : Int) := by omega
      refine awp_skip ?_
      refine awp_seq ?_
      refine awp_block ?_
      refine awp_region ?_
      refine sq_plain rfl rfl rfl (w_move rfl (ev_tmp rfl)) ?_
      refine sq_plain rfl rfl rfl (w_move rfl (ev_tmp rfl)) ?_
      refine sq_callG [0] rfl rfl rfl rfl Tryz.call84 rfl (l1Text_own q b t htb hb) (evl_cons (ev_tmp rfl) evl_nil) rfl ?_
      intro x25 ok25
      refine sq_plain rfl rfl rfl (w_bslice rfl Tryz.underlying34 Tryz.sizeOf9 Tryz.zeroValue9 rfl rfl rfl rfl (bp_cons (ev_tmp rfl) (as_str _) bp_nil) rfl rfl) ?_
      refine sq_append (by' := 16) 1 rfl rfl rfl rfl Tryz.underlying34 Tryz.type9 rfl rfl rfl rfl rfl rfl (ev_tmp rfl) (ev_tmp rfl) rfl (by first | omega | ((try simp only [List.length_map, List.length_take, List.length_cons, List.length_nil, chunks_len, szR] at *); omega) | (have hc2 := hc; simp only [Bool.and_eq_true, Bool.or_eq_true, Bool.or_eq_false_iff, Bool.and_eq_false_iff, Bool.not_eq_true', Bool.not_eq_false', decide_eq_true_eq, decide_eq_false_iff_not, beq_iff_eq, bne_iff_ne, List.length_map, List.length_take] at hc2; omega)) ?_
      intro v27_1
      refine sq_plain rfl rfl rfl (w_assign rfl (ev_tmp rfl)) ?_
      refine sq_nil ?_
      refine awp_region ?_
      refine sq_plain rfl rfl rfl (w_move rfl (ev_tmp rfl)) ?_
      refine sq_plain rfl rfl rfl (w_subi rfl (ev_tmp rfl) ev_ci (by first | omega | ((try simp only [List.length_map, List.length_take, List.length_cons, List.length_nil, chunks_len, szR] at *); omega) | (have hc2 := hc; simp only [Bool.and_eq_true, Bool.or_eq_true, Bool.or_eq_false_iff, Bool.and_eq_false_iff, Bool.not_eq_true', Bool.not_eq_false', decide_eq_true_eq, decide_eq_false_iff_not, beq_iff_eq, bne_iff_ne, List.length_map, List.length_take] at hc2; omega))) ?_
      refine sq_plain rfl rfl rfl (w_assign rfl (ev_tmp rfl)) ?_
      refine sq_nil ?_
      refine round_end4 t m l v (x25.1) (m - 1) (l ++ [x25.2]) (v27_1) ?_ ?_ (le_eq (by first | rfl | (rw [List.map_append]; rfl)) ⟨congrArg (fun z => some (AV.int z)) hm1, rfl, rfl, rfl, trivial⟩)
      · exact ⟨runOk_step (m := m - 1) (by rw [show m - 1 + 1 = m by omega]; exact hinv.1) hnb ok25, fun _ => (by simp only [List.length_append, List.length_cons, List.length_nil]; omega), by simp only [List.length_append, List.length_cons, List.length_nil]; omega⟩
      · omega
    · intro h20
      have hok : TextsOk b s t l := by (cases htb : t.bad with | true => exact runOk_bad hinv.1 htb | false => (rw [htb] at h20; simp at h20; have h9 := hinv.1; rw [show m = 0 by omega] at h9; exact runOk_end h9))
      refine awp_exit ?_
      refine awp_seq ?_
      refine awp_region ?_
      refine sq_plain rfl rfl rfl (w_move rfl (ev_tmp rfl)) ?_
      refine sq_plain rfl rfl rfl (w_assign rfl (ev_tmp rfl)) ?_
      refine sq_nil ?_
      refine awp_ret ?_
      (refine retG [0, 0] ((t, l, v)) ?_ rfl (by first | (dsimp only; rfl) | rfl) (resR rfl (rv_tmp' rfl (by rfl))); exact hok)
  · intro h8
    have k8 := of_decide_eq_false h8; try simp only [List.length_map] at k8
    have hrun := runOk_start ok6 (by omega)
    rw [hN] at hrun
    obtain ⟨t0, ht0⟩ : ∃ t0, x6.1 = t0 := ⟨_, rfl⟩
    rw [ht0] at hrun
    have hsmall : (t0.bad = false → ([] : List Str).length + N ≤ 40) := fun _ => by (simp; omega)
    refine awp_skip ?_
    refine awp_seq ?_
    refine awp_region ?_
    refine sq_nilarr 9 1 rfl rfl rfl rfl ev_cnils ?_
    intro v4
    refine sq_nil ?_
    refine awp_seq ?_
    refine awp_block ?_
    refine AWP.le (le_pick [1, 0] rfl) ?_
    refine awp_loop_i4 [(0, _), (2, _)] _ (fun (t : TSrc) (m : Nat) (l : List Str) (v : Value) => RunOk b s t l m ∧ (t.bad = false → l.length + m ≤ 40) ∧ l.length ≤ 41) (fun (t : TSrc) (m : Nat) (l : List Str) (v : Value) => [.box q 88 (srcC b t), .arr v 9 1 (l.map fun t => [AV.str t])]) (fun (t : TSrc) (m : Nat) (l : List Str) (v : Value) => [(3, AV.int m), (4, AV.is v)]) (fun (t : TSrc) (m : Nat) (l : List Str) (v : Value) => m) (t0) (N) ([]) (v4) ?_ (le_eq (by rw [← ht0]; rfl) ⟨rfl, rfl, rfl, rfl, trivial⟩) ?_
    · exact ⟨hrun, hsmall, by simp⟩
    intro t m l v hinv
    refine awp_seq ?_
    refine awp_seq ?_
    refine awp_region ?_
    refine sq_plain rfl rfl rfl (w_move rfl (ev_tmp rfl)) ?_
    refine sq_plain rfl rfl rfl (w_gtr rfl (ev_tmp rfl) ev_ci) ?_
    refine sq_plain rfl rfl rfl (w_move rfl (ev_tmp rfl)) ?_
    refine sq_grd rfl rfl (guard_t rfl rfl rfl) (fun hc => w_move rfl (ev_tmp rfl)) ?_
    refine sq_grd rfl rfl (guard_t rfl rfl rfl) (fun hc => w_nilB rfl (ev_whn rfl hc)) ?_
    refine sq_grd rfl rfl (guard_t rfl rfl rfl) (fun hc => w_fldBn 2 rfl Tryz.underlying88 rfl Tryz.sizeOf4 (ev_whn rfl hc) rfl) ?_
    refine sq_grd rfl rfl (guard_t rfl rfl rfl) (fun hc => w_loadB1 0 rfl (ev_whn rfl hc) rfl Tryz.isAgg4 rfl) ?_
    refine sq_grd rfl rfl (guard_t rfl rfl rfl) (fun hc => w_not rfl (ev_whn rfl hc)) ?_
    refine sq_plain rfl rfl rfl (w_and rfl (ev_tmp rfl) (evif_w rfl)) ?_
    refine sq_nil ?_
    refine awp_cond (ev_tmp rfl) ?_ ?_
    · intro h20
      simp only [Bool.and_eq_true, decide_eq_true_eq, Bool.not_eq_true'] at h20
      obtain ⟨hi, hnb⟩ := h20
      have hN4 := hinv.2.1 hnb
      have htb := hinv.1.1.2
      have hm1 : ((m : Nat) : Int) - 1 = ((m - 1 : Nat) : Int) := by omega
      refine awp_skip ?_
      refine awp_seq ?_
      refine awp_block ?_
      refine awp_region ?_
      refine sq_plain rfl rfl rfl (w_move rfl (ev_tmp rfl)) ?_
      refine sq_plain rfl rfl rfl (w_move rfl (ev_tmp rfl)) ?_
      refine sq_callG [0] rfl rfl rfl rfl Tryz.call84 rfl (l1Text_own q b t htb hb) (evl_cons (ev_tmp rfl) evl_nil) rfl ?_
      intro x25 ok25
      refine sq_plain rfl rfl rfl (w_bslice rfl Tryz.underlying34 Tryz.sizeOf9 Tryz.zeroValue9 rfl rfl rfl rfl (bp_cons (ev_tmp rfl) (as_str _) bp_nil) rfl rfl) ?_
      refine sq_append (by' := 16) 1 rfl rfl rfl rfl Tryz.underlying34 Tryz.type9 rfl rfl rfl rfl rfl rfl (ev_tmp rfl) (ev_tmp rfl) rfl (by first | omega | ((try simp only [List.length_map, List.length_take, List.length_cons, List.length_nil, chunks_len, szR] at *); omega) | (have hc2 := hc; simp only [Bool.and_eq_true, Bool.or_eq_true, Bool.or_eq_false_iff, Bool.and_eq_false_iff, Bool.not_eq_true', Bool.not_eq_false', decide_eq_true_eq, decide_eq_false_iff_not, beq_iff_eq, bne_iff_ne, List.length_map, List.length_take] at hc2; omega)) ?_
      intro v27_2
      refine sq_plain rfl rfl rfl (w_assign rfl (ev_tmp rfl)) ?_
      refine sq_nil ?_
      refine awp_region ?_
      refine sq_plain rfl rfl rfl (w_move rfl (ev_tmp rfl)) ?_
      refine sq_plain rfl rfl rfl (w_subi rfl (ev_tmp rfl) ev_ci (by first | omega | ((try simp only [List.length_map, List.length_take, List.length_cons, List.length_nil, chunks_len, szR] at *); omega) | (have hc2 := hc; simp only [Bool.and_eq_true, Bool.or_eq_true, Bool.or_eq_false_iff, Bool.and_eq_false_iff, Bool.not_eq_true', Bool.not_eq_false', decide_eq_true_eq, decide_eq_false_iff_not, beq_iff_eq, bne_iff_ne, List.length_map, List.length_take] at hc2; omega))) ?_
      refine sq_plain rfl rfl rfl (w_assign rfl (ev_tmp rfl)) ?_
      refine sq_nil ?_
      refine round_end4 t m l v (x25.1) (m - 1) (l ++ [x25.2]) (v27_2) ?_ ?_ (le_eq (by first | rfl | (rw [List.map_append]; rfl)) ⟨congrArg (fun z => some (AV.int z)) hm1, rfl, rfl, rfl, trivial⟩)
      · exact ⟨runOk_step (m := m - 1) (by rw [show m - 1 + 1 = m by omega]; exact hinv.1) hnb ok25, fun _ => (by simp only [List.length_append, List.length_cons, List.length_nil]; omega), by simp only [List.length_append, List.length_cons, List.length_nil]; omega⟩
      · omega
    · intro h20
      have hok : TextsOk b s t l := by (cases htb : t.bad with | true => exact runOk_bad hinv.1 htb | false => (rw [htb] at h20; simp at h20; have h9 := hinv.1; rw [show m = 0 by omega] at h9; exact runOk_end h9))
      refine awp_exit ?_
      refine awp_seq ?_
      refine awp_region ?_
      refine sq_plain rfl rfl rfl (w_move rfl (ev_tmp rfl)) ?_
      refine sq_plain rfl rfl rfl (w_assign rfl (ev_tmp rfl)) ?_
      refine sq_nil ?_
      refine awp_ret ?_
      (refine retG [0, 0] ((t, l, v)) ?_ rfl (by first | (dsimp only; rfl) | rfl) (resR rfl (rv_tmp' rfl (by rfl))); exact hok)
theorem sameTexts_spec (a b : List Str) : FSpec Tryz.prog 35 [strs a, strs b] (AV.bool (decide (a = b))) := by
  refine spec_of_awp Tryz.func35 rfl Tryz.ntmps35 rfl ?_
  refine awp_len (t := 0) rfl fun hl => ?_
  try simp only [List.length_map] at hl
  refine awp_seq ?_
  refine awp_region ?_
  refine sq_plain rfl rfl rfl (w_assign rfl ev_cb) ?_
  refine sq_nil ?_
  refine awp_seq ?_
  refine awp_seq ?_
  refine awp_region ?_
  refine sq_plain rfl rfl rfl (w_move rfl (ev_tmp rfl)) ?_
  refine sq_plain rfl rfl rfl (w_llen rfl Tryz.underlying34 (ev_tmp rfl)) ?_
  refine sq_plain rfl rfl rfl (w_move rfl (ev_tmp rfl)) ?_
  refine sq_plain rfl rfl rfl (w_llen rfl Tryz.underlying34 (ev_tmp rfl)) ?_
  refine sq_plain rfl rfl rfl (w_neq rfl (ev_tmp rfl) (ev_tmp rfl)) ?_
  refine sq_nil ?_
  refine awp_cond (ev_tmp rfl) ?_ ?_
  · intro h10
    have k10 := ne_of_bne h10; try simp only [List.length_map] at k10
    have hab : a ≠ b := by intro hc; subst hc; exact k10 rfl
    refine awp_seq ?_
    refine awp_region ?_
    refine sq_plain rfl rfl rfl (w_assign rfl ev_cb) ?_
    refine sq_nil ?_
    refine awp_ret ?_
    exact retR rfl (rv_tmp' rfl (by exact congrArg AV.bool (by simp [hab])))
  · intro h10
    have k10 := eq_of_bne_false h10; try simp only [List.length_map] at k10
    have heq : a.length = b.length := by omega
    refine awp_skip ?_
    refine awp_seq ?_
    refine awp_seq ?_
    refine awp_region ?_
    refine sq_plain rfl rfl rfl (w_move rfl (ev_tmp rfl)) ?_
    refine sq_plain rfl rfl rfl (w_llen rfl Tryz.underlying34 (ev_tmp rfl)) ?_
    refine sq_plain rfl rfl rfl (w_move rfl ev_ci) ?_
    refine sq_nil ?_
    refine awp_block ?_
    refine awp_loop_i [(0, _), (1, _), (12, _)] _ (fun (i : Nat) => i ≤ a.length ∧ a.take i = b.take i) (fun (i : Nat) => []) (fun (i : Nat) => [(13, AV.int i)]) (fun (i : Nat) => a.length - i) (0) ?_ (le_env ⟨rfl, rfl, rfl, rfl, trivial⟩) ?_
    · exact ⟨Nat.zero_le _, rfl⟩
    intro i hinv
    refine awp_seq ?_
    refine awp_region ?_
    refine sq_plain rfl rfl rfl (w_lss rfl (ev_tmp rfl) (ev_tmp rfl)) ?_
    refine sq_nil ?_
    refine awp_seq ?_
    refine awp_cond (ev_tmp rfl) ?_ ?_
    · intro h14
      have k14 := of_decide_eq_true h14; try simp only [List.length_map] at k14
      have hlt : i < a.length := by omega
      obtain ⟨x, hx⟩ := get_some hlt
      obtain ⟨y, hy⟩ := get_some (show i < b.length by omega)
      refine awp_skip ?_
      refine awp_seq ?_
      refine awp_block ?_
      refine awp_seq ?_
      refine awp_region ?_
      refine sq_plain rfl rfl rfl (w_move rfl (ev_tmp rfl)) ?_
      refine sq_plain rfl rfl rfl (w_assign rfl (ev_tmp rfl)) ?_
      refine sq_nil ?_
      refine awp_seq ?_
      refine awp_region_any (by kernel_rfl) (by kernel_rfl) rfl ?_
      refine ch_plain rfl rfl (w_move rfl (ev_tmp rfl)) ?_
      refine ch_plain rfl rfl (w_move rfl (ev_tmp rfl)) ?_
      refine ch_plain rfl rfl (w_idxm rfl Tryz.underlying34 Tryz.sizeOf9 (ev_tmp rfl) (ev_tmp rfl) hx (by first | omega | ((try simp only [List.length_map, List.length_take, List.length_cons, List.length_nil, chunks_len, szR] at *); omega) | (have hc2 := hc; simp only [Bool.and_eq_true, Bool.or_eq_true, Bool.or_eq_false_iff, Bool.and_eq_false_iff, Bool.not_eq_true', Bool.not_eq_false', decide_eq_true_eq, decide_eq_false_iff_not, beq_iff_eq, bne_iff_ne, List.length_map, List.length_take] at hc2; omega))) ?_
      refine ch_plain rfl rfl (w_loadE1 rfl (ev_tmp rfl) Tryz.isAgg9 rfl) ?_
      refine ch_plain rfl rfl (w_move rfl (ev_tmp rfl)) ?_
      refine ch_plain rfl rfl (w_move rfl (ev_tmp rfl)) ?_
      refine ch_plain rfl rfl (w_idxm rfl Tryz.underlying34 Tryz.sizeOf9 (ev_tmp rfl) (ev_tmp rfl) hy (by first | omega | ((try simp only [List.length_map, List.length_take, List.length_cons, List.length_nil, chunks_len, szR] at *); omega) | (have hc2 := hc; simp only [Bool.and_eq_true, Bool.or_eq_true, Bool.or_eq_false_iff, Bool.and_eq_false_iff, Bool.not_eq_true', Bool.not_eq_false', decide_eq_true_eq, decide_eq_false_iff_not, beq_iff_eq, bne_iff_ne, List.length_map, List.length_take] at hc2; omega))) ?_
      refine ch_plain rfl rfl (w_loadE1 rfl (ev_tmp rfl) Tryz.isAgg9 rfl) ?_
      refine ch_plain rfl rfl (w_sneq rfl (ev_tmp rfl) (ev_tmp rfl)) ?_
      refine ch_nil ?_
      refine awp_cond (ev_tmp rfl) ?_ ?_
      · intro h24
        have hab : a ≠ b := by intro hc; subst hc; rw [hx] at hy; injection hy with hy; subst hy; simp at h24
        refine awp_seq ?_
        refine awp_region ?_
        refine sq_plain rfl rfl rfl (w_assign rfl ev_cb) ?_
        refine sq_nil ?_
        refine awp_ret ?_
        exact retR rfl (rv_tmp' rfl (by exact congrArg AV.bool (by simp [hab])))
      · intro h24
        refine awp_skip ?_
        refine awp_region ?_
        refine sq_plain rfl rfl rfl (w_addi rfl (ev_tmp rfl) ev_ci (by first | omega | ((try simp only [List.length_map, List.length_take, List.length_cons, List.length_nil, chunks_len, szR] at *); omega) | (have hc2 := hc; simp only [Bool.and_eq_true, Bool.or_eq_true, Bool.or_eq_false_iff, Bool.and_eq_false_iff, Bool.not_eq_true', Bool.not_eq_false', decide_eq_true_eq, decide_eq_false_iff_not, beq_iff_eq, bne_iff_ne, List.length_map, List.length_take] at hc2; omega))) ?_
        refine sq_plain rfl rfl rfl (w_move rfl (ev_tmp rfl)) ?_
        refine sq_nil ?_
        refine round_end i (i + 1) ?_ ?_ (le_env ⟨rfl, rfl, rfl, rfl, trivial⟩)
        · exact ⟨by omega, take_eq_succ hinv.2 hx (by rw [hy]; congr 1; simp_all)⟩
        · omega
    · intro h14
      have k14 := of_decide_eq_false h14; try simp only [List.length_map] at k14
      have hge : a.length ≤ i := by omega
      have hab : a = b := take_eq_of heq hinv.2 hge
      refine awp_exit ?_
      refine awp_seq ?_
      refine awp_region ?_
      refine sq_plain rfl rfl rfl (w_assign rfl ev_cb) ?_
      refine sq_nil ?_
      refine awp_ret ?_
      exact retR rfl (rv_tmp' rfl (by exact congrArg AV.bool (by simp [hab])))
end Go.Proofs.YtmlmmgeadombbaaGreatDoor

set_option linter.unusedVariables false
set_option linter.unusedSimpArgs false
set_option maxRecDepth 100000
set_option maxHeartbeats 1000000
namespace Go.Proofs.YtmlmmgeadombbaaGreatDoor
open Go Go.AV Go.M
attribute [local irreducible] OpW OpA OpS AWP FSpec ESpec GSpec OpE RetOk RetOkG RvDen Le Ev GuardIs SrcIs Int.tmod Int.tdiv IntKind.wrap
theorem isTxnR_spec (n : Int) : FSpec Tryz.prog 60 [AV.int n] (AV.bool (isTxnR n)) := by
  refine spec_of_awp Tryz.func60 rfl Tryz.ntmps60 rfl ?_
  refine awp_seq ?_
  refine awp_region ?_
  refine sq_plain rfl rfl rfl (w_assign rfl ev_cb) ?_
  refine sq_nil ?_
  refine awp_seq ?_
  refine awp_region ?_
  refine sq_plain rfl rfl rfl (w_move rfl (ev_tmp rfl)) ?_
  refine sq_plain rfl rfl rfl (w_call rfl Tryz.call62 rfl (within_spec _ _ _) (evl_cons (ev_tmp rfl) (evl_cons ev_ci (evl_cons ev_ci evl_nil)))) ?_
  refine sq_plain rfl rfl rfl (w_assign rfl (ev_tmp rfl)) ?_
  refine sq_nil ?_
  refine awp_ret ?_
  exact retR rfl (rv_tmp' rfl (by rfl))
theorem flagByte_spec (b : Bool) : FSpec Tryz.prog 105 [AV.bool b] (AV.str (flagB b)) := by
  refine spec_of_awp Tryz.func105 rfl Tryz.ntmps105 rfl ?_
  refine awp_seq ?_
  refine awp_region ?_
  refine sq_plain rfl rfl rfl (w_assign rfl (ev_cs' (l := []) rfl)) ?_
  refine sq_nil ?_
  refine awp_seq ?_
  refine awp_seq ?_
  refine awp_region ?_
  refine sq_plain rfl rfl rfl (w_move rfl (ev_tmp rfl)) ?_
  refine sq_nil ?_
  refine awp_cond (ev_tmp rfl) ?_ ?_
  · intro h3
    refine awp_seq ?_
    refine awp_region ?_
    refine sq_plain rfl rfl rfl (w_assign rfl (ev_cs' (l := [1]) rfl)) ?_
    refine sq_nil ?_
    refine awp_ret ?_
    exact retR rfl (rv_tmp' rfl (by exact congrArg AV.str (by unfold flagB; simp_all)))
  · intro h3
    refine awp_skip ?_
    refine awp_seq ?_
    refine awp_region ?_
    refine sq_plain rfl rfl rfl (w_assign rfl (ev_cs' (l := [0]) rfl)) ?_
    refine sq_nil ?_
    refine awp_ret ?_
    exact retR rfl (rv_tmp' rfl (by exact congrArg AV.str (by unfold flagB; simp_all)))
theorem l4Flag_spec (b : Bool) : FSpec Tryz.prog 114 [AV.bool b] (AV.str (flagB b)) := by
  refine spec_of_awp Tryz.func114 rfl Tryz.ntmps114 rfl ?_
  refine awp_seq ?_
  refine awp_region ?_
  refine sq_plain rfl rfl rfl (w_assign rfl (ev_cs' (l := []) rfl)) ?_
  refine sq_nil ?_
  refine awp_seq ?_
  refine awp_seq ?_
  refine awp_region ?_
  refine sq_plain rfl rfl rfl (w_move rfl (ev_tmp rfl)) ?_
  refine sq_nil ?_
  refine awp_cond (ev_tmp rfl) ?_ ?_
  · intro h3
    refine awp_seq ?_
    refine awp_region ?_
    refine sq_plain rfl rfl rfl (w_assign rfl (ev_cs' (l := [1]) rfl)) ?_
    refine sq_nil ?_
    refine awp_ret ?_
    exact retR rfl (rv_tmp' rfl (by exact congrArg AV.str (by unfold flagB; simp_all)))
  · intro h3
    refine awp_skip ?_
    refine awp_seq ?_
    refine awp_region ?_
    refine sq_plain rfl rfl rfl (w_assign rfl (ev_cs' (l := [0]) rfl)) ?_
    refine sq_nil ?_
    refine awp_ret ?_
    exact retR rfl (rv_tmp' rfl (by exact congrArg AV.str (by unfold flagB; simp_all)))
theorem l3Time_spec (t : Int) : FSpec Tryz.prog 110 [AV.int t] (AV.bool (within t 1 100000)) := by
  refine spec_of_awp Tryz.func110 rfl Tryz.ntmps110 rfl ?_
  refine awp_seq ?_
  refine awp_region ?_
  refine sq_plain rfl rfl rfl (w_assign rfl ev_cb) ?_
  refine sq_nil ?_
  refine awp_seq ?_
  refine awp_region ?_
  refine sq_plain rfl rfl rfl (w_move rfl (ev_tmp rfl)) ?_
  refine sq_plain rfl rfl rfl (w_call rfl Tryz.call109 rfl (l1In_spec _ _ _) (evl_cons (ev_tmp rfl) (evl_cons ev_ci (evl_cons ev_ci evl_nil)))) ?_
  refine sq_plain rfl rfl rfl (w_assign rfl (ev_tmp rfl)) ?_
  refine sq_nil ?_
  refine awp_ret ?_
  exact retR rfl (rv_tmp' rfl (by first | rfl | (refine congrArg AV.bool ?_; simp_all; done)))
theorem rec_reads {r : TRec} (hs : r.size ≤ 1048576) : (∀ k ∈ r.Reads, k.length ≤ 4611686018427387904) ∧ sizeL TWrite.size r.Writes ≤ 1048576 ∧ r.Reads.length ≤ 1048576 ∧ r.Writes.length ≤ 1048576 := by
  unfold TRec.size at hs
  have h1 := sizeL_len (f := fun x : Str => x.length) (l := r.Reads)
  have h2 := sizeL_len (f := TWrite.size) (l := r.Writes)
  exact ⟨fun k hk => by have := sizeL_mem (f := fun x : Str => x.length) hk; omega, by omega, by omega, by omega⟩
theorem goodRec_spec (r : TRec) (hs : r.size ≤ 1048576) : FSpec Tryz.prog 21 [AV.agg r.cs] (AV.bool (goodRec r)) := by
  obtain ⟨hr1, hr2, hr3, hr4⟩ := rec_reads hs
  refine spec_of_awp Tryz.func21 rfl Tryz.ntmps21 rfl ?_
  refine awp_seq ?_
  refine awp_region ?_
  refine sq_box rfl rfl rfl rfl (ev_tmp rfl) ?_
  intro b1
  refine sq_plain rfl rfl rfl (w_assign rfl ev_cb) ?_
  refine sq_nil ?_
  refine awp_seq ?_
  refine awp_region ?_
  refine sq_plain rfl rfl rfl (w_fldBn 3 rfl Tryz.underlying37 rfl Tryz.sizeOf3 (ev_tmp rfl) rfl) ?_
  refine sq_plain rfl rfl rfl (w_loadB1 0 rfl (ev_tmp rfl) rfl Tryz.isAgg3 rfl) ?_
  refine sq_plain rfl rfl rfl (w_eql rfl (ev_tmp rfl) ev_ci) ?_
  refine sq_plain rfl rfl rfl (w_move rfl (ev_tmp rfl)) ?_
  refine sq_grd rfl rfl (guard_t rfl rfl rfl) (fun hc => w_fldBn 4 rfl Tryz.underlying37 rfl Tryz.sizeOf34 (ev_tmp rfl) rfl) ?_
  refine sq_grd rfl rfl (guard_t rfl rfl rfl) (fun hc => w_loadB1 0 rfl (ev_whn rfl hc) rfl Tryz.isAgg34 rfl) ?_
  refine sq_grd rfl rfl (guard_t rfl rfl rfl) (fun hc => w_llen rfl Tryz.underlying34 (ev_whn rfl hc)) ?_
  refine sq_grd rfl rfl (guard_t rfl rfl rfl) (fun hc => w_eql rfl (ev_whn rfl hc) ev_ci) ?_
  refine sq_plain rfl rfl rfl (w_and rfl (ev_tmp rfl) (evif_w rfl)) ?_
  refine sq_plain rfl rfl rfl (w_move rfl (ev_tmp rfl)) ?_
  refine sq_grd rfl rfl (guard_t rfl rfl rfl) (fun hc => w_fldBn 5 rfl Tryz.underlying37 rfl Tryz.sizeOf35 (ev_tmp rfl) rfl) ?_
  refine sq_grd rfl rfl (guard_t rfl rfl rfl) (fun hc => w_loadB1 0 rfl (ev_whn rfl hc) rfl Tryz.isAgg35 rfl) ?_
  refine sq_grd rfl rfl (guard_t rfl rfl rfl) (fun hc => w_llen rfl Tryz.underlying35 (ev_whn rfl hc)) ?_
  refine sq_grd rfl rfl (guard_t rfl rfl rfl) (fun hc => w_eql rfl (ev_whn rfl hc) ev_ci) ?_
  refine sq_plain rfl rfl rfl (w_and rfl (ev_tmp rfl) (evif_w rfl)) ?_
  refine sq_plain rfl rfl rfl (w_assign rfl (ev_tmp rfl)) ?_
  refine sq_nil ?_
  refine awp_seq ?_
  refine awp_seq ?_
  refine awp_region ?_
  refine sq_plain rfl rfl rfl (w_fldBn 0 rfl Tryz.underlying37 rfl Tryz.sizeOf3 (ev_tmp rfl) rfl) ?_
  refine sq_plain rfl rfl rfl (w_loadB1 0 rfl (ev_tmp rfl) rfl Tryz.isAgg3 rfl) ?_
  refine sq_nil ?_
  refine awp_block ?_
  refine awp_seq ?_
  refine awp_region ?_
  refine sq_plain rfl rfl rfl (w_eql rfl (ev_tmp rfl) ev_ci) ?_
  refine sq_plain rfl rfl rfl (w_assign rfl (ev_tmp rfl)) ?_
  refine sq_nil ?_
  refine awp_cond (ev_tmp rfl) ?_ ?_
  · intro h21
    have k21 := eq_of_beqt h21; try simp only [List.length_map] at k21
    refine awp_seq ?_
    refine awp_region ?_
    refine sq_plain rfl rfl rfl (w_fldBn 1 rfl Tryz.underlying37 rfl Tryz.sizeOf3 (ev_tmp rfl) rfl) ?_
    refine sq_plain rfl rfl rfl (w_loadB1 0 rfl (ev_tmp rfl) rfl Tryz.isAgg3 rfl) ?_
    refine sq_plain rfl rfl rfl (w_call rfl Tryz.call60 rfl (isTxnR_spec _) (evl_cons (ev_tmp rfl) evl_nil)) ?_
    refine sq_plain rfl rfl rfl (w_move rfl (ev_tmp rfl)) ?_
    refine sq_grd rfl rfl (guard_t rfl rfl rfl) (fun hc => w_fldBn 2 rfl Tryz.underlying37 rfl Tryz.sizeOf3 (ev_tmp rfl) rfl) ?_
    refine sq_grd rfl rfl (guard_t rfl rfl rfl) (fun hc => w_loadB1 0 rfl (ev_whn rfl hc) rfl Tryz.isAgg3 rfl) ?_
    refine sq_grd rfl rfl (guard_t rfl rfl rfl) (fun hc => w_call rfl Tryz.call61 rfl (isTime_spec _) (evl_cons (ev_whn rfl hc) evl_nil)) ?_
    refine sq_plain rfl rfl rfl (w_and rfl (ev_tmp rfl) (evif_w rfl)) ?_
    refine sq_plain rfl rfl rfl (w_move rfl (ev_tmp rfl)) ?_
    refine sq_grd rfl rfl (guard_t rfl rfl rfl) (fun hc => w_fldBn 3 rfl Tryz.underlying37 rfl Tryz.sizeOf3 (ev_tmp rfl) rfl) ?_
    refine sq_grd rfl rfl (guard_t rfl rfl rfl) (fun hc => w_loadB1 0 rfl (ev_whn rfl hc) rfl Tryz.isAgg3 rfl) ?_
    refine sq_grd rfl rfl (guard_t rfl rfl rfl) (fun hc => w_call rfl Tryz.call62 rfl (within_spec _ _ _) (evl_cons (ev_whn rfl hc) (evl_cons ev_ci (evl_cons ev_ci evl_nil)))) ?_
    refine sq_plain rfl rfl rfl (w_and rfl (ev_tmp rfl) (evif_w rfl)) ?_
    refine sq_plain rfl rfl rfl (w_move rfl (ev_tmp rfl)) ?_
    refine sq_grd rfl rfl (guard_t rfl rfl rfl) (fun hc => w_fldBn 4 rfl Tryz.underlying37 rfl Tryz.sizeOf34 (ev_tmp rfl) rfl) ?_
    refine sq_grd rfl rfl (guard_t rfl rfl rfl) (fun hc => w_loadB1 0 rfl (ev_whn rfl hc) rfl Tryz.isAgg34 rfl) ?_
    refine sq_grd rfl rfl (guard_t rfl rfl rfl) (fun hc => w_llen rfl Tryz.underlying34 (ev_whn rfl hc)) ?_
    refine sq_grd rfl rfl (guard_t rfl rfl rfl) (fun hc => w_leq rfl (ev_whn rfl hc) ev_ci) ?_
    refine sq_plain rfl rfl rfl (w_and rfl (ev_tmp rfl) (evif_w rfl)) ?_
    refine sq_plain rfl rfl rfl (w_move rfl (ev_tmp rfl)) ?_
    refine sq_grd rfl rfl (guard_t rfl rfl rfl) (fun hc => w_fldBn 4 rfl Tryz.underlying37 rfl Tryz.sizeOf34 (ev_tmp rfl) rfl) ?_
    refine sq_grd rfl rfl (guard_t rfl rfl rfl) (fun hc => w_loadB1 0 rfl (ev_whn rfl hc) rfl Tryz.isAgg34 rfl) ?_
    refine sq_grd rfl rfl (guard_t rfl rfl rfl) (fun hc => w_call rfl Tryz.call63 rfl (areRising_spec r.Reads hr1) (evl_cons (ev_whn rfl hc) evl_nil)) ?_
    refine sq_plain rfl rfl rfl (w_and rfl (ev_tmp rfl) (evif_w rfl)) ?_
    refine sq_plain rfl rfl rfl (w_move rfl (ev_tmp rfl)) ?_
    refine sq_grd rfl rfl (guard_t rfl rfl rfl) (fun hc => w_fldBn 5 rfl Tryz.underlying37 rfl Tryz.sizeOf35 (ev_tmp rfl) rfl) ?_
    refine sq_grd rfl rfl (guard_t rfl rfl rfl) (fun hc => w_loadB1 0 rfl (ev_whn rfl hc) rfl Tryz.isAgg35 rfl) ?_
    refine sq_grd rfl rfl (guard_t rfl rfl rfl) (fun hc => w_llen rfl Tryz.underlying35 (ev_whn rfl hc)) ?_
    refine sq_grd rfl rfl (guard_t rfl rfl rfl) (fun hc => w_leq rfl (ev_whn rfl hc) ev_ci) ?_
    refine sq_plain rfl rfl rfl (w_and rfl (ev_tmp rfl) (evif_w rfl)) ?_
    refine sq_plain rfl rfl rfl (w_move rfl (ev_tmp rfl)) ?_
    refine sq_grd rfl rfl (guard_t rfl rfl rfl) (fun hc => w_fldBn 5 rfl Tryz.underlying37 rfl Tryz.sizeOf35 (ev_tmp rfl) rfl) ?_
    refine sq_grd rfl rfl (guard_t rfl rfl rfl) (fun hc => w_loadB1 0 rfl (ev_whn rfl hc) rfl Tryz.isAgg35 rfl) ?_
    refine sq_grd rfl rfl (guard_t rfl rfl rfl) (fun hc => w_call rfl Tryz.call64 rfl (goodWrites_spec r.Writes (by omega)) (evl_cons (ev_whn rfl hc) evl_nil)) ?_
    refine sq_plain rfl rfl rfl (w_and rfl (ev_tmp rfl) (evif_w rfl)) ?_
    refine sq_plain rfl rfl rfl (w_move rfl (ev_tmp rfl)) ?_
    refine sq_grd rfl rfl (guard_t rfl rfl rfl) (fun hc => w_fldBn 4 rfl Tryz.underlying37 rfl Tryz.sizeOf34 (ev_tmp rfl) rfl) ?_
    refine sq_grd rfl rfl (guard_t rfl rfl rfl) (fun hc => w_loadB1 0 rfl (ev_whn rfl hc) rfl Tryz.isAgg34 rfl) ?_
    refine sq_grd rfl rfl (guard_t rfl rfl rfl) (fun hc => w_llen rfl Tryz.underlying34 (ev_whn rfl hc)) ?_
    refine sq_grd rfl rfl (guard_t rfl rfl rfl) (fun hc => w_fldBn 5 rfl Tryz.underlying37 rfl Tryz.sizeOf35 (ev_tmp rfl) rfl) ?_
    refine sq_grd rfl rfl (guard_t rfl rfl rfl) (fun hc => w_loadB1 0 rfl (ev_whn rfl hc) rfl Tryz.isAgg35 rfl) ?_
    refine sq_grd rfl rfl (guard_t rfl rfl rfl) (fun hc => w_llen rfl Tryz.underlying35 (ev_whn rfl hc)) ?_
    refine sq_grd rfl rfl (guard_t rfl rfl rfl) (fun hc => w_addi rfl (ev_whn rfl hc) (ev_whn rfl hc) (by first | omega | ((try simp only [List.length_map, List.length_take, List.length_cons, List.length_nil, chunks_len, szR] at *); omega) | (have hc2 := hc; simp only [Bool.and_eq_true, Bool.or_eq_true, Bool.or_eq_false_iff, Bool.and_eq_false_iff, Bool.not_eq_true', Bool.not_eq_false', decide_eq_true_eq, decide_eq_false_iff_not, beq_iff_eq, bne_iff_ne, List.length_map, List.length_take] at hc2; omega))) ?_
    refine sq_grd rfl rfl (guard_t rfl rfl rfl) (fun hc => w_gtr rfl (ev_whn rfl hc) ev_ci) ?_
    refine sq_plain rfl rfl rfl (w_and rfl (ev_tmp rfl) (evif_w rfl)) ?_
    refine sq_plain rfl rfl rfl (w_move rfl (ev_tmp rfl)) ?_
    refine sq_grd rfl rfl (guard_t rfl rfl rfl) (fun hc => w_fldBn 6 rfl Tryz.underlying37 rfl Tryz.sizeOf4 (ev_tmp rfl) rfl) ?_
    refine sq_grd rfl rfl (guard_t rfl rfl rfl) (fun hc => w_loadB1 0 rfl (ev_whn rfl hc) rfl Tryz.isAgg4 rfl) ?_
    refine sq_grd rfl rfl (guard_t rfl rfl rfl) (fun hc => w_not rfl (ev_whn rfl hc)) ?_
    refine sq_plain rfl rfl rfl (w_and rfl (ev_tmp rfl) (evif_w rfl)) ?_
    refine sq_plain rfl rfl rfl (w_assign rfl (ev_tmp rfl)) ?_
    refine sq_nil ?_
    refine awp_ret ?_
    exact retR rfl (rv_tmp' rfl (by first | (exfalso; omega) | exact congrArg AV.bool (by unfold goodRec good1 good2 good4 bareR; simp [*])))
  · intro h21
    have k21 := ne_of_beqf h21; try simp only [List.length_map] at k21
    refine awp_seq ?_
    refine awp_seq ?_
    refine awp_region ?_
    refine sq_plain rfl rfl rfl (w_eql rfl (ev_tmp rfl) ev_ci) ?_
    refine sq_plain rfl rfl rfl (w_assign rfl (ev_tmp rfl)) ?_
    refine sq_nil ?_
    refine awp_cond (ev_tmp rfl) ?_ ?_
    · intro h73
      have k73 := eq_of_beqt h73; try simp only [List.length_map] at k73
      refine awp_skip ?_
      refine awp_cond (ev_tmp rfl) ?_ ?_
      · intro h73
        have k73 := eq_of_beqt h73; try simp only [List.length_map] at k73
        refine awp_seq ?_
        refine awp_region ?_
        refine sq_plain rfl rfl rfl (w_move rfl (ev_tmp rfl)) ?_
        refine sq_plain rfl rfl rfl (w_move rfl (ev_tmp rfl)) ?_
        refine sq_grd rfl rfl (guard_t rfl rfl rfl) (fun hc => w_fldBn 1 rfl Tryz.underlying37 rfl Tryz.sizeOf3 (ev_tmp rfl) rfl) ?_
        refine sq_grd rfl rfl (guard_t rfl rfl rfl) (fun hc => w_loadB1 0 rfl (ev_whn rfl hc) rfl Tryz.isAgg3 rfl) ?_
        refine sq_grd rfl rfl (guard_t rfl rfl rfl) (fun hc => w_call rfl Tryz.call60 rfl (isTxnR_spec _) (evl_cons (ev_whn rfl hc) evl_nil)) ?_
        refine sq_plain rfl rfl rfl (w_and rfl (ev_tmp rfl) (evif_w rfl)) ?_
        refine sq_plain rfl rfl rfl (w_move rfl (ev_tmp rfl)) ?_
        refine sq_grd rfl rfl (guard_t rfl rfl rfl) (fun hc => w_fldBn 6 rfl Tryz.underlying37 rfl Tryz.sizeOf4 (ev_tmp rfl) rfl) ?_
        refine sq_grd rfl rfl (guard_t rfl rfl rfl) (fun hc => w_loadB1 0 rfl (ev_whn rfl hc) rfl Tryz.isAgg4 rfl) ?_
        refine sq_grd rfl rfl (guard_t rfl rfl rfl) (fun hc => w_move rfl (ev_whn rfl hc)) ?_
        refine sq_grd rfl rfl (guard_wt rfl rfl rfl) (fun hc => w_fldBn 2 rfl Tryz.underlying37 rfl Tryz.sizeOf3 (ev_tmp rfl) rfl) ?_
        refine sq_grd rfl rfl (guard_wt rfl rfl rfl) (fun hc => w_loadB1 0 rfl (ev_whn rfl hc) rfl Tryz.isAgg3 rfl) ?_
        refine sq_grd rfl rfl (guard_wt rfl rfl rfl) (fun hc => w_call rfl Tryz.call61 rfl (isTime_spec _) (evl_cons (ev_whn rfl hc) evl_nil)) ?_
        refine sq_grd rfl rfl (guard_t rfl rfl rfl) (fun hc => w_and rfl (ev_whn rfl hc) (evif_w2 rfl hc)) ?_
        refine sq_grd rfl rfl (guard_t rfl rfl rfl) (fun hc => w_move rfl (ev_whn rfl hc)) ?_
        refine sq_grd rfl rfl (guard_wf rfl rfl rfl) (fun hc => w_fldBn 6 rfl Tryz.underlying37 rfl Tryz.sizeOf4 (ev_tmp rfl) rfl) ?_
        refine sq_grd rfl rfl (guard_wf rfl rfl rfl) (fun hc => w_loadB1 0 rfl (ev_whn rfl hc) rfl Tryz.isAgg4 rfl) ?_
        refine sq_grd rfl rfl (guard_wf rfl rfl rfl) (fun hc => w_not rfl (ev_whn rfl hc)) ?_
        refine sq_grd rfl rfl (guard_wf rfl rfl rfl) (fun hc => w_move rfl (ev_whn rfl hc)) ?_
        refine sq_grd rfl rfl (guard_wt rfl rfl rfl) (fun hc => w_fldBn 2 rfl Tryz.underlying37 rfl Tryz.sizeOf3 (ev_tmp rfl) rfl) ?_
        refine sq_grd rfl rfl (guard_wt rfl rfl rfl) (fun hc => w_loadB1 0 rfl (ev_whn rfl hc) rfl Tryz.isAgg3 rfl) ?_
        refine sq_grd rfl rfl (guard_wt rfl rfl rfl) (fun hc => w_eql rfl (ev_whn rfl hc) ev_ci) ?_
        refine sq_grd rfl rfl (guard_wf rfl rfl rfl) (fun hc => w_and rfl (ev_whn rfl hc) (evif_w2 rfl hc)) ?_
        refine sq_grd rfl rfl (guard_t rfl rfl rfl) (fun hc => w_or rfl (ev_whn rfl hc) (evif_w2 rfl hc)) ?_
        refine sq_plain rfl rfl rfl (w_and rfl (ev_tmp rfl) (evif_w rfl)) ?_
        refine sq_plain rfl rfl rfl (w_assign rfl (ev_tmp rfl)) ?_
        refine sq_nil ?_
        refine awp_ret ?_
        exact retR rfl (rv_tmp' rfl (by first | (exfalso; omega) | exact congrArg AV.bool (by unfold goodRec good1 good2 good4 bareR; simp [*])))
      · intro h73
        have k73 := ne_of_beqf h73; try simp only [List.length_map] at k73
        refine awp_seq ?_
        refine awp_region ?_
        refine sq_plain rfl rfl rfl (w_eql rfl (ev_tmp rfl) ev_ci) ?_
        refine sq_plain rfl rfl rfl (w_assign rfl (ev_tmp rfl)) ?_
        refine sq_nil ?_
        refine awp_cond (ev_tmp rfl) ?_ ?_
        · intro h101
          have k101 := eq_of_beqt h101; try simp only [List.length_map] at k101
          refine awp_seq ?_
          refine awp_region ?_
          refine sq_plain rfl rfl rfl (w_move rfl (ev_tmp rfl)) ?_
          refine sq_plain rfl rfl rfl (w_move rfl (ev_tmp rfl)) ?_
          refine sq_grd rfl rfl (guard_t rfl rfl rfl) (fun hc => w_fldBn 1 rfl Tryz.underlying37 rfl Tryz.sizeOf3 (ev_tmp rfl) rfl) ?_
          refine sq_grd rfl rfl (guard_t rfl rfl rfl) (fun hc => w_loadB1 0 rfl (ev_whn rfl hc) rfl Tryz.isAgg3 rfl) ?_
          refine sq_grd rfl rfl (guard_t rfl rfl rfl) (fun hc => w_eql rfl (ev_whn rfl hc) ev_ci) ?_
          refine sq_plain rfl rfl rfl (w_and rfl (ev_tmp rfl) (evif_w rfl)) ?_
          refine sq_plain rfl rfl rfl (w_move rfl (ev_tmp rfl)) ?_
          refine sq_grd rfl rfl (guard_t rfl rfl rfl) (fun hc => w_fldBn 2 rfl Tryz.underlying37 rfl Tryz.sizeOf3 (ev_tmp rfl) rfl) ?_
          refine sq_grd rfl rfl (guard_t rfl rfl rfl) (fun hc => w_loadB1 0 rfl (ev_whn rfl hc) rfl Tryz.isAgg3 rfl) ?_
          refine sq_grd rfl rfl (guard_t rfl rfl rfl) (fun hc => w_call rfl Tryz.call61 rfl (isTime_spec _) (evl_cons (ev_whn rfl hc) evl_nil)) ?_
          refine sq_plain rfl rfl rfl (w_and rfl (ev_tmp rfl) (evif_w rfl)) ?_
          refine sq_plain rfl rfl rfl (w_move rfl (ev_tmp rfl)) ?_
          refine sq_grd rfl rfl (guard_t rfl rfl rfl) (fun hc => w_fldBn 6 rfl Tryz.underlying37 rfl Tryz.sizeOf4 (ev_tmp rfl) rfl) ?_
          refine sq_grd rfl rfl (guard_t rfl rfl rfl) (fun hc => w_loadB1 0 rfl (ev_whn rfl hc) rfl Tryz.isAgg4 rfl) ?_
          refine sq_grd rfl rfl (guard_t rfl rfl rfl) (fun hc => w_not rfl (ev_whn rfl hc)) ?_
          refine sq_plain rfl rfl rfl (w_and rfl (ev_tmp rfl) (evif_w rfl)) ?_
          refine sq_plain rfl rfl rfl (w_assign rfl (ev_tmp rfl)) ?_
          refine sq_nil ?_
          refine awp_ret ?_
          exact retR rfl (rv_tmp' rfl (by first | (exfalso; omega) | exact congrArg AV.bool (by unfold goodRec good1 good2 good4 bareR; simp [*])))
        · intro h101
          have k101 := ne_of_beqf h101; try simp only [List.length_map] at k101
          refine awp_skip ?_
          refine awp_seq ?_
          refine awp_region ?_
          refine sq_plain rfl rfl rfl (w_assign rfl ev_cb) ?_
          refine sq_nil ?_
          refine awp_ret ?_
          exact retR rfl (rv_tmp' rfl (by first | (exfalso; omega) | exact congrArg AV.bool (by unfold goodRec good1 good2 good4 bareR; simp [*])))
    · intro h73
      have k73 := ne_of_beqf h73; try simp only [List.length_map] at k73
      refine awp_region ?_
      refine sq_plain rfl rfl rfl (w_eql rfl (ev_tmp rfl) ev_ci) ?_
      refine sq_plain rfl rfl rfl (w_assign rfl (ev_tmp rfl)) ?_
      refine sq_nil ?_
      refine awp_cond (ev_tmp rfl) ?_ ?_
      · intro h73
        have k73 := eq_of_beqt h73; try simp only [List.length_map] at k73
        refine awp_seq ?_
        refine awp_region ?_
        refine sq_plain rfl rfl rfl (w_move rfl (ev_tmp rfl)) ?_
        refine sq_plain rfl rfl rfl (w_move rfl (ev_tmp rfl)) ?_
        refine sq_grd rfl rfl (guard_t rfl rfl rfl) (fun hc => w_fldBn 1 rfl Tryz.underlying37 rfl Tryz.sizeOf3 (ev_tmp rfl) rfl) ?_
        refine sq_grd rfl rfl (guard_t rfl rfl rfl) (fun hc => w_loadB1 0 rfl (ev_whn rfl hc) rfl Tryz.isAgg3 rfl) ?_
        refine sq_grd rfl rfl (guard_t rfl rfl rfl) (fun hc => w_call rfl Tryz.call60 rfl (isTxnR_spec _) (evl_cons (ev_whn rfl hc) evl_nil)) ?_
        refine sq_plain rfl rfl rfl (w_and rfl (ev_tmp rfl) (evif_w rfl)) ?_
        refine sq_plain rfl rfl rfl (w_move rfl (ev_tmp rfl)) ?_
        refine sq_grd rfl rfl (guard_t rfl rfl rfl) (fun hc => w_fldBn 6 rfl Tryz.underlying37 rfl Tryz.sizeOf4 (ev_tmp rfl) rfl) ?_
        refine sq_grd rfl rfl (guard_t rfl rfl rfl) (fun hc => w_loadB1 0 rfl (ev_whn rfl hc) rfl Tryz.isAgg4 rfl) ?_
        refine sq_grd rfl rfl (guard_t rfl rfl rfl) (fun hc => w_move rfl (ev_whn rfl hc)) ?_
        refine sq_grd rfl rfl (guard_wt rfl rfl rfl) (fun hc => w_fldBn 2 rfl Tryz.underlying37 rfl Tryz.sizeOf3 (ev_tmp rfl) rfl) ?_
        refine sq_grd rfl rfl (guard_wt rfl rfl rfl) (fun hc => w_loadB1 0 rfl (ev_whn rfl hc) rfl Tryz.isAgg3 rfl) ?_
        refine sq_grd rfl rfl (guard_wt rfl rfl rfl) (fun hc => w_call rfl Tryz.call61 rfl (isTime_spec _) (evl_cons (ev_whn rfl hc) evl_nil)) ?_
        refine sq_grd rfl rfl (guard_t rfl rfl rfl) (fun hc => w_and rfl (ev_whn rfl hc) (evif_w2 rfl hc)) ?_
        refine sq_grd rfl rfl (guard_t rfl rfl rfl) (fun hc => w_move rfl (ev_whn rfl hc)) ?_
        refine sq_grd rfl rfl (guard_wf rfl rfl rfl) (fun hc => w_fldBn 6 rfl Tryz.underlying37 rfl Tryz.sizeOf4 (ev_tmp rfl) rfl) ?_
        refine sq_grd rfl rfl (guard_wf rfl rfl rfl) (fun hc => w_loadB1 0 rfl (ev_whn rfl hc) rfl Tryz.isAgg4 rfl) ?_
        refine sq_grd rfl rfl (guard_wf rfl rfl rfl) (fun hc => w_not rfl (ev_whn rfl hc)) ?_
        refine sq_grd rfl rfl (guard_wf rfl rfl rfl) (fun hc => w_move rfl (ev_whn rfl hc)) ?_
        refine sq_grd rfl rfl (guard_wt rfl rfl rfl) (fun hc => w_fldBn 2 rfl Tryz.underlying37 rfl Tryz.sizeOf3 (ev_tmp rfl) rfl) ?_
        refine sq_grd rfl rfl (guard_wt rfl rfl rfl) (fun hc => w_loadB1 0 rfl (ev_whn rfl hc) rfl Tryz.isAgg3 rfl) ?_
        refine sq_grd rfl rfl (guard_wt rfl rfl rfl) (fun hc => w_eql rfl (ev_whn rfl hc) ev_ci) ?_
        refine sq_grd rfl rfl (guard_wf rfl rfl rfl) (fun hc => w_and rfl (ev_whn rfl hc) (evif_w2 rfl hc)) ?_
        refine sq_grd rfl rfl (guard_t rfl rfl rfl) (fun hc => w_or rfl (ev_whn rfl hc) (evif_w2 rfl hc)) ?_
        refine sq_plain rfl rfl rfl (w_and rfl (ev_tmp rfl) (evif_w rfl)) ?_
        refine sq_plain rfl rfl rfl (w_assign rfl (ev_tmp rfl)) ?_
        refine sq_nil ?_
        refine awp_ret ?_
        exact retR rfl (rv_tmp' rfl (by first | (exfalso; omega) | exact congrArg AV.bool (by unfold goodRec good1 good2 good4 bareR; simp [*])))
      · intro h73
        have k73 := ne_of_beqf h73; try simp only [List.length_map] at k73
        refine awp_seq ?_
        refine awp_region ?_
        refine sq_plain rfl rfl rfl (w_eql rfl (ev_tmp rfl) ev_ci) ?_
        refine sq_plain rfl rfl rfl (w_assign rfl (ev_tmp rfl)) ?_
        refine sq_nil ?_
        refine awp_cond (ev_tmp rfl) ?_ ?_
        · intro h101
          have k101 := eq_of_beqt h101; try simp only [List.length_map] at k101
          refine awp_seq ?_
          refine awp_region ?_
          refine sq_plain rfl rfl rfl (w_move rfl (ev_tmp rfl)) ?_
          refine sq_plain rfl rfl rfl (w_move rfl (ev_tmp rfl)) ?_
          refine sq_grd rfl rfl (guard_t rfl rfl rfl) (fun hc => w_fldBn 1 rfl Tryz.underlying37 rfl Tryz.sizeOf3 (ev_tmp rfl) rfl) ?_
          refine sq_grd rfl rfl (guard_t rfl rfl rfl) (fun hc => w_loadB1 0 rfl (ev_whn rfl hc) rfl Tryz.isAgg3 rfl) ?_
          refine sq_grd rfl rfl (guard_t rfl rfl rfl) (fun hc => w_eql rfl (ev_whn rfl hc) ev_ci) ?_
          refine sq_plain rfl rfl rfl (w_and rfl (ev_tmp rfl) (evif_w rfl)) ?_
          refine sq_plain rfl rfl rfl (w_move rfl (ev_tmp rfl)) ?_
          refine sq_grd rfl rfl (guard_t rfl rfl rfl) (fun hc => w_fldBn 2 rfl Tryz.underlying37 rfl Tryz.sizeOf3 (ev_tmp rfl) rfl) ?_
          refine sq_grd rfl rfl (guard_t rfl rfl rfl) (fun hc => w_loadB1 0 rfl (ev_whn rfl hc) rfl Tryz.isAgg3 rfl) ?_
          refine sq_grd rfl rfl (guard_t rfl rfl rfl) (fun hc => w_call rfl Tryz.call61 rfl (isTime_spec _) (evl_cons (ev_whn rfl hc) evl_nil)) ?_
          refine sq_plain rfl rfl rfl (w_and rfl (ev_tmp rfl) (evif_w rfl)) ?_
          refine sq_plain rfl rfl rfl (w_move rfl (ev_tmp rfl)) ?_
          refine sq_grd rfl rfl (guard_t rfl rfl rfl) (fun hc => w_fldBn 6 rfl Tryz.underlying37 rfl Tryz.sizeOf4 (ev_tmp rfl) rfl) ?_
          refine sq_grd rfl rfl (guard_t rfl rfl rfl) (fun hc => w_loadB1 0 rfl (ev_whn rfl hc) rfl Tryz.isAgg4 rfl) ?_
          refine sq_grd rfl rfl (guard_t rfl rfl rfl) (fun hc => w_not rfl (ev_whn rfl hc)) ?_
          refine sq_plain rfl rfl rfl (w_and rfl (ev_tmp rfl) (evif_w rfl)) ?_
          refine sq_plain rfl rfl rfl (w_assign rfl (ev_tmp rfl)) ?_
          refine sq_nil ?_
          refine awp_ret ?_
          exact retR rfl (rv_tmp' rfl (by first | (exfalso; omega) | exact congrArg AV.bool (by unfold goodRec good1 good2 good4 bareR; simp [*])))
        · intro h101
          have k101 := ne_of_beqf h101; try simp only [List.length_map] at k101
          refine awp_skip ?_
          refine awp_seq ?_
          refine awp_region ?_
          refine sq_plain rfl rfl rfl (w_assign rfl ev_cb) ?_
          refine sq_nil ?_
          refine awp_ret ?_
          exact retR rfl (rv_tmp' rfl (by first | (exfalso; omega) | exact congrArg AV.bool (by unfold goodRec good1 good2 good4 bareR; simp [*])))
theorem l4Keys_spec (l : List Str) (hs : ∀ k ∈ l, k.length ≤ 4611686018427387904) : FSpec Tryz.prog 111 [strs l] (AV.bool (l4Keys l)) := by
  refine spec_of_awp Tryz.func111 rfl Tryz.ntmps111 rfl ?_
  refine awp_len (t := 0) rfl fun hl => ?_
  try simp only [List.length_map] at hl
  refine awp_seq ?_
  refine awp_region ?_
  refine sq_plain rfl rfl rfl (w_assign rfl ev_cb) ?_
  refine sq_nil ?_
  refine awp_seq ?_
  refine awp_seq ?_
  refine awp_region ?_
  refine sq_plain rfl rfl rfl (w_move rfl (ev_tmp rfl)) ?_
  refine sq_plain rfl rfl rfl (w_llen rfl Tryz.underlying34 (ev_tmp rfl)) ?_
  refine sq_plain rfl rfl rfl (w_move rfl ev_ci) ?_
  refine sq_nil ?_
  refine awp_block ?_
  refine awp_loop_i [(0, _), (5, _), (6, _)] _ (fun (i : Nat) => i ≤ l.length ∧ (l.all l3Key && adj Op.bytesLess l) = ((l.drop i).all l3Key && adj Op.bytesLess (l.drop (i - 1)))) (fun (i : Nat) => []) (fun (i : Nat) => [(7, AV.int i)]) (fun (i : Nat) => l.length - i) (0) ?_ (le_env ⟨rfl, rfl, rfl, rfl, trivial⟩) ?_
  · exact ⟨Nat.zero_le _, rfl⟩
  intro i hinv
  refine awp_seq ?_
  refine awp_region ?_
  refine sq_plain rfl rfl rfl (w_lss rfl (ev_tmp rfl) (ev_tmp rfl)) ?_
  refine sq_nil ?_
  refine awp_seq ?_
  refine awp_cond (ev_tmp rfl) ?_ ?_
  · intro h8
    have k8 := of_decide_eq_true h8; try simp only [List.length_map] at k8
    have hlt : i < l.length := by omega
    obtain ⟨x, hx⟩ := get_some hlt
    obtain ⟨y, hy⟩ := get_some (show i - 1 < l.length by omega)
    have hsx := hs x (List.mem_of_getElem? hx)
    refine awp_skip ?_
    refine awp_seq ?_
    refine awp_block ?_
    refine awp_seq ?_
    refine awp_region ?_
    refine sq_plain rfl rfl rfl (w_move rfl (ev_tmp rfl)) ?_
    refine sq_plain rfl rfl rfl (w_idx rfl Tryz.underlying34 Tryz.sizeOf9 (ev_tmp rfl) (ev_tmp rfl) (by omega) (by simp only [Int.toNat_natCast, List.getElem?_map, hx, Option.map_some]; try rfl)) ?_
    refine sq_plain rfl rfl rfl (w_loadE1 rfl (ev_tmp rfl) Tryz.isAgg9 rfl) ?_
    refine sq_plain rfl rfl rfl (w_assign rfl (ev_tmp rfl)) ?_
    refine sq_plain rfl rfl rfl (w_assign rfl (ev_tmp rfl)) ?_
    refine sq_nil ?_
    refine awp_seq ?_
    refine awp_region ?_
    refine sq_plain rfl rfl rfl (w_move rfl (ev_tmp rfl)) ?_
    refine sq_plain rfl rfl rfl (w_call rfl Tryz.call143 rfl (l3Key_spec _ (by omega)) (evl_cons (ev_tmp rfl) evl_nil)) ?_
    refine sq_plain rfl rfl rfl (w_not rfl (ev_tmp rfl)) ?_
    refine sq_plain rfl rfl rfl (w_move rfl (ev_tmp rfl)) ?_
    refine sq_grd rfl rfl (guard_f rfl rfl rfl) (fun hc => w_move rfl (ev_tmp rfl)) ?_
    refine sq_grd rfl rfl (guard_f rfl rfl rfl) (fun hc => w_gtr rfl (ev_whn rfl hc) ev_ci) ?_
    refine sq_grd rfl rfl (guard_f rfl rfl rfl) (fun hc => w_move rfl (ev_whn rfl hc)) ?_
    refine sq_grd rfl rfl (guard_wt rfl rfl rfl) (fun hc => w_move rfl (ev_tmp rfl)) ?_
    refine sq_grd rfl rfl (guard_wt rfl rfl rfl) (fun hc => w_move rfl (ev_tmp rfl)) ?_
    refine sq_grd rfl rfl (guard_wt rfl rfl rfl) (fun hc => w_subi rfl (ev_whn rfl hc) ev_ci (by first | omega | ((try simp only [List.length_map, List.length_take, List.length_cons, List.length_nil, chunks_len, szR] at *); omega) | (have hc2 := hc; simp only [Bool.and_eq_true, Bool.or_eq_true, Bool.or_eq_false_iff, Bool.and_eq_false_iff, Bool.not_eq_true', Bool.not_eq_false', decide_eq_true_eq, decide_eq_false_iff_not, beq_iff_eq, bne_iff_ne, List.length_map, List.length_take] at hc2; omega))) ?_
    refine sq_grd rfl rfl (guard_wt rfl rfl rfl) (fun hc => w_idx rfl Tryz.underlying34 Tryz.sizeOf9 (ev_whn rfl hc) (ev_whn rfl hc) (by have := of_decide_eq_true (and_r hc); omega) (by have := of_decide_eq_true (and_r hc); rw [show ((i : Int) - 1).toNat = i - 1 by omega]; simp only [List.getElem?_map, hy, Option.map_some]; try rfl)) ?_
    refine sq_grd rfl rfl (guard_wt rfl rfl rfl) (fun hc => w_loadE1 rfl (ev_whn rfl hc) Tryz.isAgg9 rfl) ?_
    refine sq_grd rfl rfl (guard_wt rfl rfl rfl) (fun hc => w_move rfl (ev_tmp rfl)) ?_
    refine sq_grd rfl rfl (guard_wt rfl rfl rfl) (fun hc => w_sgeq rfl (ev_whn rfl hc) (ev_whn rfl hc)) ?_
    refine sq_grd rfl rfl (guard_f rfl rfl rfl) (fun hc => w_and rfl (ev_whn rfl hc) (evif_w2 rfl hc)) ?_
    refine sq_plain rfl rfl rfl (w_or rfl (ev_tmp rfl) (evif_w rfl)) ?_
    refine sq_nil ?_
    refine awp_cond (ev_tmp rfl) ?_ ?_
    · intro h27
      have hfin : (l.all l3Key && adj Op.bytesLess l) = false := by rw [hinv.2, drop_some hx, List.all_cons]; cases hg : l3Key x with | false => simp | true => (simp only [hg, Bool.not_true, Bool.false_or, Bool.and_eq_true, decide_eq_true_eq, Bool.not_eq_true'] at h27; rw [adj_stop hx hy (by omega) h27.2]; simp)
      refine awp_seq ?_
      refine awp_region ?_
      refine sq_plain rfl rfl rfl (w_assign rfl ev_cb) ?_
      refine sq_nil ?_
      refine awp_ret ?_
      exact retR rfl (rv_tmp' rfl (by first | exact congrArg AV.bool (by unfold l4Keys; rw [hfin]; rfl) | exact congrArg AV.bool (by unfold l4Keys; rw [hinv.2, adj_end hge, List.drop_eq_nil_of_le hge]; simp)))
    · intro h27
      refine awp_skip ?_
      refine awp_region ?_
      refine sq_plain rfl rfl rfl (w_addi rfl (ev_tmp rfl) ev_ci (by first | omega | ((try simp only [List.length_map, List.length_take, List.length_cons, List.length_nil, chunks_len, szR] at *); omega) | (have hc2 := hc; simp only [Bool.and_eq_true, Bool.or_eq_true, Bool.or_eq_false_iff, Bool.and_eq_false_iff, Bool.not_eq_true', Bool.not_eq_false', decide_eq_true_eq, decide_eq_false_iff_not, beq_iff_eq, bne_iff_ne, List.length_map, List.length_take] at hc2; omega))) ?_
      refine sq_plain rfl rfl rfl (w_move rfl (ev_tmp rfl)) ?_
      refine sq_nil ?_
      refine round_end i (i + 1) ?_ ?_ (le_env ⟨rfl, rfl, rfl, rfl, trivial⟩)
      · exact ⟨by omega, by rw [hinv.2, drop_some hx, List.all_cons, adj_step hx hy (fun h0 => by simp_all), show l3Key x = true by simp_all, Bool.true_and]⟩
      · omega
  · intro h8
    have k8 := of_decide_eq_false h8; try simp only [List.length_map] at k8
    have hge : l.length ≤ i := by omega
    refine awp_exit ?_
    refine awp_seq ?_
    refine awp_region ?_
    refine sq_plain rfl rfl rfl (w_move rfl (ev_tmp rfl)) ?_
    refine sq_plain rfl rfl rfl (w_llen rfl Tryz.underlying34 (ev_tmp rfl)) ?_
    refine sq_plain rfl rfl rfl (w_leq rfl (ev_tmp rfl) ev_ci) ?_
    refine sq_plain rfl rfl rfl (w_assign rfl (ev_tmp rfl)) ?_
    refine sq_nil ?_
    refine awp_ret ?_
    exact retR rfl (rv_tmp' rfl (by first | exact congrArg AV.bool (by unfold l4Keys; rw [hfin]; rfl) | exact congrArg AV.bool (by unfold l4Keys; rw [hinv.2, adj_end hge, List.drop_eq_nil_of_le hge]; simp)))
theorem l4Good_spec (r : TRec) (hs : r.size ≤ 1048576) : FSpec Tryz.prog 56 [AV.agg r.cs] (AV.bool (l4Good r)) := by
  obtain ⟨hr1, hr2, hr3, hr4⟩ := rec_reads hs
  refine spec_of_awp Tryz.func56 rfl Tryz.ntmps56 rfl ?_
  refine awp_seq ?_
  refine awp_region ?_
  refine sq_box rfl rfl rfl rfl (ev_tmp rfl) ?_
  intro b1
  refine sq_plain rfl rfl rfl (w_assign rfl ev_cb) ?_
  refine sq_nil ?_
  refine awp_seq ?_
  refine awp_seq ?_
  refine awp_region ?_
  refine sq_plain rfl rfl rfl (w_fldBn 0 rfl Tryz.underlying37 rfl Tryz.sizeOf3 (ev_tmp rfl) rfl) ?_
  refine sq_plain rfl rfl rfl (w_loadB1 0 rfl (ev_tmp rfl) rfl Tryz.isAgg3 rfl) ?_
  refine sq_plain rfl rfl rfl (w_neq rfl (ev_tmp rfl) ev_ci) ?_
  refine sq_plain rfl rfl rfl (w_move rfl (ev_tmp rfl)) ?_
  refine sq_grd rfl rfl (guard_t rfl rfl rfl) (fun hc => w_fldBn 3 rfl Tryz.underlying37 rfl Tryz.sizeOf3 (ev_tmp rfl) rfl) ?_
  refine sq_grd rfl rfl (guard_t rfl rfl rfl) (fun hc => w_loadB1 0 rfl (ev_whn rfl hc) rfl Tryz.isAgg3 rfl) ?_
  refine sq_grd rfl rfl (guard_t rfl rfl rfl) (fun hc => w_neq rfl (ev_whn rfl hc) ev_ci) ?_
  refine sq_grd rfl rfl (guard_t rfl rfl rfl) (fun hc => w_move rfl (ev_whn rfl hc)) ?_
  refine sq_grd rfl rfl (guard_wf rfl rfl rfl) (fun hc => w_fldBn 4 rfl Tryz.underlying37 rfl Tryz.sizeOf34 (ev_tmp rfl) rfl) ?_
  refine sq_grd rfl rfl (guard_wf rfl rfl rfl) (fun hc => w_loadB1 0 rfl (ev_whn rfl hc) rfl Tryz.isAgg34 rfl) ?_
  refine sq_grd rfl rfl (guard_wf rfl rfl rfl) (fun hc => w_llen rfl Tryz.underlying34 (ev_whn rfl hc)) ?_
  refine sq_grd rfl rfl (guard_wf rfl rfl rfl) (fun hc => w_fldBn 5 rfl Tryz.underlying37 rfl Tryz.sizeOf35 (ev_tmp rfl) rfl) ?_
  refine sq_grd rfl rfl (guard_wf rfl rfl rfl) (fun hc => w_loadB1 0 rfl (ev_whn rfl hc) rfl Tryz.isAgg35 rfl) ?_
  refine sq_grd rfl rfl (guard_wf rfl rfl rfl) (fun hc => w_llen rfl Tryz.underlying35 (ev_whn rfl hc)) ?_
  refine sq_grd rfl rfl (guard_wf rfl rfl rfl) (fun hc => w_addi rfl (ev_whn rfl hc) (ev_whn rfl hc) (by first | omega | ((try simp only [List.length_map, List.length_take, List.length_cons, List.length_nil, chunks_len, szR] at *); omega) | (have hc2 := hc; simp only [Bool.and_eq_true, Bool.or_eq_true, Bool.or_eq_false_iff, Bool.and_eq_false_iff, Bool.not_eq_true', Bool.not_eq_false', decide_eq_true_eq, decide_eq_false_iff_not, beq_iff_eq, bne_iff_ne, List.length_map, List.length_take] at hc2; omega))) ?_
  refine sq_grd rfl rfl (guard_wf rfl rfl rfl) (fun hc => w_gtr rfl (ev_whn rfl hc) ev_ci) ?_
  refine sq_grd rfl rfl (guard_t rfl rfl rfl) (fun hc => w_or rfl (ev_whn rfl hc) (evif_w2 rfl hc)) ?_
  refine sq_plain rfl rfl rfl (w_and rfl (ev_tmp rfl) (evif_w rfl)) ?_
  refine sq_nil ?_
  refine awp_cond (ev_tmp rfl) ?_ ?_
  · intro h20
    have ho : oddR r = true := by (unfold oddR; simpa using h20)
    refine awp_seq ?_
    refine awp_region ?_
    refine sq_plain rfl rfl rfl (w_assign rfl ev_cb) ?_
    refine sq_nil ?_
    refine awp_ret ?_
    exact retR rfl (rv_tmp' rfl (by first | (exfalso; omega) | exact congrArg AV.bool (by unfold l4Good; rw [ho]; first | rfl | (unfold l4G1 l4G2 l4G4; simp [*]))))
  · intro h20
    have ho : oddR r = false := by (unfold oddR; simpa using h20)
    refine awp_skip ?_
    refine awp_seq ?_
    refine awp_seq ?_
    refine awp_region ?_
    refine sq_plain rfl rfl rfl (w_fldBn 0 rfl Tryz.underlying37 rfl Tryz.sizeOf3 (ev_tmp rfl) rfl) ?_
    refine sq_plain rfl rfl rfl (w_loadB1 0 rfl (ev_tmp rfl) rfl Tryz.isAgg3 rfl) ?_
    refine sq_nil ?_
    refine awp_block ?_
    refine awp_seq ?_
    refine awp_region ?_
    refine sq_plain rfl rfl rfl (w_eql rfl (ev_tmp rfl) ev_ci) ?_
    refine sq_plain rfl rfl rfl (w_assign rfl (ev_tmp rfl)) ?_
    refine sq_nil ?_
    refine awp_cond (ev_tmp rfl) ?_ ?_
    · intro h23
      have k23 := eq_of_beqt h23; try simp only [List.length_map] at k23
      refine awp_seq ?_
      refine awp_region ?_
      refine sq_plain rfl rfl rfl (w_fldBn 1 rfl Tryz.underlying37 rfl Tryz.sizeOf3 (ev_tmp rfl) rfl) ?_
      refine sq_plain rfl rfl rfl (w_loadB1 0 rfl (ev_tmp rfl) rfl Tryz.isAgg3 rfl) ?_
      refine sq_plain rfl rfl rfl (w_call rfl Tryz.call109 rfl (l1In_spec _ _ _) (evl_cons (ev_tmp rfl) (evl_cons ev_ci (evl_cons ev_ci evl_nil)))) ?_
      refine sq_plain rfl rfl rfl (w_move rfl (ev_tmp rfl)) ?_
      refine sq_grd rfl rfl (guard_t rfl rfl rfl) (fun hc => w_fldBn 2 rfl Tryz.underlying37 rfl Tryz.sizeOf3 (ev_tmp rfl) rfl) ?_
      refine sq_grd rfl rfl (guard_t rfl rfl rfl) (fun hc => w_loadB1 0 rfl (ev_whn rfl hc) rfl Tryz.isAgg3 rfl) ?_
      refine sq_grd rfl rfl (guard_t rfl rfl rfl) (fun hc => w_call rfl Tryz.call110 rfl (l3Time_spec _) (evl_cons (ev_whn rfl hc) evl_nil)) ?_
      refine sq_plain rfl rfl rfl (w_and rfl (ev_tmp rfl) (evif_w rfl)) ?_
      refine sq_plain rfl rfl rfl (w_move rfl (ev_tmp rfl)) ?_
      refine sq_grd rfl rfl (guard_t rfl rfl rfl) (fun hc => w_fldBn 3 rfl Tryz.underlying37 rfl Tryz.sizeOf3 (ev_tmp rfl) rfl) ?_
      refine sq_grd rfl rfl (guard_t rfl rfl rfl) (fun hc => w_loadB1 0 rfl (ev_whn rfl hc) rfl Tryz.isAgg3 rfl) ?_
      refine sq_grd rfl rfl (guard_t rfl rfl rfl) (fun hc => w_call rfl Tryz.call109 rfl (l1In_spec _ _ _) (evl_cons (ev_whn rfl hc) (evl_cons ev_ci (evl_cons ev_ci evl_nil)))) ?_
      refine sq_plain rfl rfl rfl (w_and rfl (ev_tmp rfl) (evif_w rfl)) ?_
      refine sq_plain rfl rfl rfl (w_move rfl (ev_tmp rfl)) ?_
      refine sq_grd rfl rfl (guard_t rfl rfl rfl) (fun hc => w_fldBn 4 rfl Tryz.underlying37 rfl Tryz.sizeOf34 (ev_tmp rfl) rfl) ?_
      refine sq_grd rfl rfl (guard_t rfl rfl rfl) (fun hc => w_loadB1 0 rfl (ev_whn rfl hc) rfl Tryz.isAgg34 rfl) ?_
      refine sq_grd rfl rfl (guard_t rfl rfl rfl) (fun hc => w_call rfl Tryz.call111 rfl (l4Keys_spec r.Reads hr1) (evl_cons (ev_whn rfl hc) evl_nil)) ?_
      refine sq_plain rfl rfl rfl (w_and rfl (ev_tmp rfl) (evif_w rfl)) ?_
      refine sq_plain rfl rfl rfl (w_move rfl (ev_tmp rfl)) ?_
      refine sq_grd rfl rfl (guard_t rfl rfl rfl) (fun hc => w_fldBn 5 rfl Tryz.underlying37 rfl Tryz.sizeOf35 (ev_tmp rfl) rfl) ?_
      refine sq_grd rfl rfl (guard_t rfl rfl rfl) (fun hc => w_loadB1 0 rfl (ev_whn rfl hc) rfl Tryz.isAgg35 rfl) ?_
      refine sq_grd rfl rfl (guard_t rfl rfl rfl) (fun hc => w_call rfl Tryz.call112 rfl (l3Writes_spec r.Writes (by omega)) (evl_cons (ev_whn rfl hc) evl_nil)) ?_
      refine sq_plain rfl rfl rfl (w_and rfl (ev_tmp rfl) (evif_w rfl)) ?_
      refine sq_plain rfl rfl rfl (w_move rfl (ev_tmp rfl)) ?_
      refine sq_grd rfl rfl (guard_t rfl rfl rfl) (fun hc => w_fldBn 5 rfl Tryz.underlying37 rfl Tryz.sizeOf35 (ev_tmp rfl) rfl) ?_
      refine sq_grd rfl rfl (guard_t rfl rfl rfl) (fun hc => w_loadB1 0 rfl (ev_whn rfl hc) rfl Tryz.isAgg35 rfl) ?_
      refine sq_grd rfl rfl (guard_t rfl rfl rfl) (fun hc => w_llen rfl Tryz.underlying35 (ev_whn rfl hc)) ?_
      refine sq_grd rfl rfl (guard_t rfl rfl rfl) (fun hc => w_call rfl Tryz.call109 rfl (l1In_spec _ _ _) (evl_cons (ev_whn rfl hc) (evl_cons ev_ci (evl_cons ev_ci evl_nil)))) ?_
      refine sq_plain rfl rfl rfl (w_and rfl (ev_tmp rfl) (evif_w rfl)) ?_
      refine sq_plain rfl rfl rfl (w_move rfl (ev_tmp rfl)) ?_
      refine sq_grd rfl rfl (guard_t rfl rfl rfl) (fun hc => w_fldBn 4 rfl Tryz.underlying37 rfl Tryz.sizeOf34 (ev_tmp rfl) rfl) ?_
      refine sq_grd rfl rfl (guard_t rfl rfl rfl) (fun hc => w_loadB1 0 rfl (ev_whn rfl hc) rfl Tryz.isAgg34 rfl) ?_
      refine sq_grd rfl rfl (guard_t rfl rfl rfl) (fun hc => w_llen rfl Tryz.underlying34 (ev_whn rfl hc)) ?_
      refine sq_grd rfl rfl (guard_t rfl rfl rfl) (fun hc => w_fldBn 5 rfl Tryz.underlying37 rfl Tryz.sizeOf35 (ev_tmp rfl) rfl) ?_
      refine sq_grd rfl rfl (guard_t rfl rfl rfl) (fun hc => w_loadB1 0 rfl (ev_whn rfl hc) rfl Tryz.isAgg35 rfl) ?_
      refine sq_grd rfl rfl (guard_t rfl rfl rfl) (fun hc => w_llen rfl Tryz.underlying35 (ev_whn rfl hc)) ?_
      refine sq_grd rfl rfl (guard_t rfl rfl rfl) (fun hc => w_addi rfl (ev_whn rfl hc) (ev_whn rfl hc) (by first | omega | ((try simp only [List.length_map, List.length_take, List.length_cons, List.length_nil, chunks_len, szR] at *); omega) | (have hc2 := hc; simp only [Bool.and_eq_true, Bool.or_eq_true, Bool.or_eq_false_iff, Bool.and_eq_false_iff, Bool.not_eq_true', Bool.not_eq_false', decide_eq_true_eq, decide_eq_false_iff_not, beq_iff_eq, bne_iff_ne, List.length_map, List.length_take] at hc2; omega))) ?_
      refine sq_grd rfl rfl (guard_t rfl rfl rfl) (fun hc => w_gtr rfl (ev_whn rfl hc) ev_ci) ?_
      refine sq_plain rfl rfl rfl (w_and rfl (ev_tmp rfl) (evif_w rfl)) ?_
      refine sq_plain rfl rfl rfl (w_move rfl (ev_tmp rfl)) ?_
      refine sq_grd rfl rfl (guard_t rfl rfl rfl) (fun hc => w_fldBn 6 rfl Tryz.underlying37 rfl Tryz.sizeOf4 (ev_tmp rfl) rfl) ?_
      refine sq_grd rfl rfl (guard_t rfl rfl rfl) (fun hc => w_loadB1 0 rfl (ev_whn rfl hc) rfl Tryz.isAgg4 rfl) ?_
      refine sq_grd rfl rfl (guard_t rfl rfl rfl) (fun hc => w_not rfl (ev_whn rfl hc)) ?_
      refine sq_plain rfl rfl rfl (w_and rfl (ev_tmp rfl) (evif_w rfl)) ?_
      refine sq_plain rfl rfl rfl (w_assign rfl (ev_tmp rfl)) ?_
      refine sq_nil ?_
      refine awp_ret ?_
      exact retR rfl (rv_tmp' rfl (by first | (exfalso; omega) | exact congrArg AV.bool (by unfold l4Good; rw [ho]; first | rfl | (unfold l4G1 l4G2 l4G4; simp [*]))))
    · intro h23
      have k23 := ne_of_beqf h23; try simp only [List.length_map] at k23
      refine awp_seq ?_
      refine awp_seq ?_
      refine awp_region ?_
      refine sq_plain rfl rfl rfl (w_eql rfl (ev_tmp rfl) ev_ci) ?_
      refine sq_plain rfl rfl rfl (w_assign rfl (ev_tmp rfl)) ?_
      refine sq_nil ?_
      refine awp_cond (ev_tmp rfl) ?_ ?_
      · intro h69
        have k69 := eq_of_beqt h69; try simp only [List.length_map] at k69
        refine awp_skip ?_
        refine awp_cond (ev_tmp rfl) ?_ ?_
        · intro h69
          have k69 := eq_of_beqt h69; try simp only [List.length_map] at k69
          refine awp_seq ?_
          refine awp_region ?_
          refine sq_plain rfl rfl rfl (w_fldBn 1 rfl Tryz.underlying37 rfl Tryz.sizeOf3 (ev_tmp rfl) rfl) ?_
          refine sq_plain rfl rfl rfl (w_loadB1 0 rfl (ev_tmp rfl) rfl Tryz.isAgg3 rfl) ?_
          refine sq_plain rfl rfl rfl (w_call rfl Tryz.call109 rfl (l1In_spec _ _ _) (evl_cons (ev_tmp rfl) (evl_cons ev_ci (evl_cons ev_ci evl_nil)))) ?_
          refine sq_plain rfl rfl rfl (w_move rfl (ev_tmp rfl)) ?_
          refine sq_grd rfl rfl (guard_t rfl rfl rfl) (fun hc => w_fldBn 6 rfl Tryz.underlying37 rfl Tryz.sizeOf4 (ev_tmp rfl) rfl) ?_
          refine sq_grd rfl rfl (guard_t rfl rfl rfl) (fun hc => w_loadB1 0 rfl (ev_whn rfl hc) rfl Tryz.isAgg4 rfl) ?_
          refine sq_grd rfl rfl (guard_t rfl rfl rfl) (fun hc => w_move rfl (ev_whn rfl hc)) ?_
          refine sq_grd rfl rfl (guard_wt rfl rfl rfl) (fun hc => w_fldBn 2 rfl Tryz.underlying37 rfl Tryz.sizeOf3 (ev_tmp rfl) rfl) ?_
          refine sq_grd rfl rfl (guard_wt rfl rfl rfl) (fun hc => w_loadB1 0 rfl (ev_whn rfl hc) rfl Tryz.isAgg3 rfl) ?_
          refine sq_grd rfl rfl (guard_wt rfl rfl rfl) (fun hc => w_call rfl Tryz.call110 rfl (l3Time_spec _) (evl_cons (ev_whn rfl hc) evl_nil)) ?_
          refine sq_grd rfl rfl (guard_t rfl rfl rfl) (fun hc => w_and rfl (ev_whn rfl hc) (evif_w2 rfl hc)) ?_
          refine sq_grd rfl rfl (guard_t rfl rfl rfl) (fun hc => w_move rfl (ev_whn rfl hc)) ?_
          refine sq_grd rfl rfl (guard_wf rfl rfl rfl) (fun hc => w_fldBn 6 rfl Tryz.underlying37 rfl Tryz.sizeOf4 (ev_tmp rfl) rfl) ?_
          refine sq_grd rfl rfl (guard_wf rfl rfl rfl) (fun hc => w_loadB1 0 rfl (ev_whn rfl hc) rfl Tryz.isAgg4 rfl) ?_
          refine sq_grd rfl rfl (guard_wf rfl rfl rfl) (fun hc => w_not rfl (ev_whn rfl hc)) ?_
          refine sq_grd rfl rfl (guard_wf rfl rfl rfl) (fun hc => w_move rfl (ev_whn rfl hc)) ?_
          refine sq_grd rfl rfl (guard_wt rfl rfl rfl) (fun hc => w_fldBn 2 rfl Tryz.underlying37 rfl Tryz.sizeOf3 (ev_tmp rfl) rfl) ?_
          refine sq_grd rfl rfl (guard_wt rfl rfl rfl) (fun hc => w_loadB1 0 rfl (ev_whn rfl hc) rfl Tryz.isAgg3 rfl) ?_
          refine sq_grd rfl rfl (guard_wt rfl rfl rfl) (fun hc => w_eql rfl (ev_whn rfl hc) ev_ci) ?_
          refine sq_grd rfl rfl (guard_wf rfl rfl rfl) (fun hc => w_and rfl (ev_whn rfl hc) (evif_w2 rfl hc)) ?_
          refine sq_grd rfl rfl (guard_t rfl rfl rfl) (fun hc => w_or rfl (ev_whn rfl hc) (evif_w2 rfl hc)) ?_
          refine sq_plain rfl rfl rfl (w_and rfl (ev_tmp rfl) (evif_w rfl)) ?_
          refine sq_plain rfl rfl rfl (w_assign rfl (ev_tmp rfl)) ?_
          refine sq_nil ?_
          refine awp_ret ?_
          exact retR rfl (rv_tmp' rfl (by first | (exfalso; omega) | exact congrArg AV.bool (by unfold l4Good; rw [ho]; first | rfl | (unfold l4G1 l4G2 l4G4; simp [*]))))
        · intro h69
          have k69 := ne_of_beqf h69; try simp only [List.length_map] at k69
          refine awp_skip ?_
          refine awp_seq ?_
          refine awp_region ?_
          refine sq_plain rfl rfl rfl (w_fldBn 0 rfl Tryz.underlying37 rfl Tryz.sizeOf3 (ev_tmp rfl) rfl) ?_
          refine sq_plain rfl rfl rfl (w_loadB1 0 rfl (ev_tmp rfl) rfl Tryz.isAgg3 rfl) ?_
          refine sq_plain rfl rfl rfl (w_eql rfl (ev_tmp rfl) ev_ci) ?_
          refine sq_plain rfl rfl rfl (w_move rfl (ev_tmp rfl)) ?_
          refine sq_grd rfl rfl (guard_t rfl rfl rfl) (fun hc => w_fldBn 1 rfl Tryz.underlying37 rfl Tryz.sizeOf3 (ev_tmp rfl) rfl) ?_
          refine sq_grd rfl rfl (guard_t rfl rfl rfl) (fun hc => w_loadB1 0 rfl (ev_whn rfl hc) rfl Tryz.isAgg3 rfl) ?_
          refine sq_grd rfl rfl (guard_t rfl rfl rfl) (fun hc => w_eql rfl (ev_whn rfl hc) ev_ci) ?_
          refine sq_plain rfl rfl rfl (w_and rfl (ev_tmp rfl) (evif_w rfl)) ?_
          refine sq_plain rfl rfl rfl (w_move rfl (ev_tmp rfl)) ?_
          refine sq_grd rfl rfl (guard_t rfl rfl rfl) (fun hc => w_fldBn 2 rfl Tryz.underlying37 rfl Tryz.sizeOf3 (ev_tmp rfl) rfl) ?_
          refine sq_grd rfl rfl (guard_t rfl rfl rfl) (fun hc => w_loadB1 0 rfl (ev_whn rfl hc) rfl Tryz.isAgg3 rfl) ?_
          refine sq_grd rfl rfl (guard_t rfl rfl rfl) (fun hc => w_call rfl Tryz.call110 rfl (l3Time_spec _) (evl_cons (ev_whn rfl hc) evl_nil)) ?_
          refine sq_plain rfl rfl rfl (w_and rfl (ev_tmp rfl) (evif_w rfl)) ?_
          refine sq_plain rfl rfl rfl (w_move rfl (ev_tmp rfl)) ?_
          refine sq_grd rfl rfl (guard_t rfl rfl rfl) (fun hc => w_fldBn 6 rfl Tryz.underlying37 rfl Tryz.sizeOf4 (ev_tmp rfl) rfl) ?_
          refine sq_grd rfl rfl (guard_t rfl rfl rfl) (fun hc => w_loadB1 0 rfl (ev_whn rfl hc) rfl Tryz.isAgg4 rfl) ?_
          refine sq_grd rfl rfl (guard_t rfl rfl rfl) (fun hc => w_not rfl (ev_whn rfl hc)) ?_
          refine sq_plain rfl rfl rfl (w_and rfl (ev_tmp rfl) (evif_w rfl)) ?_
          refine sq_plain rfl rfl rfl (w_assign rfl (ev_tmp rfl)) ?_
          refine sq_nil ?_
          refine awp_ret ?_
          exact retR rfl (rv_tmp' rfl (by first | (exfalso; omega) | exact congrArg AV.bool (by unfold l4Good; rw [ho]; first | rfl | (unfold l4G1 l4G2 l4G4; simp [*]))))
      · intro h69
        have k69 := ne_of_beqf h69; try simp only [List.length_map] at k69
        refine awp_region ?_
        refine sq_plain rfl rfl rfl (w_eql rfl (ev_tmp rfl) ev_ci) ?_
        refine sq_plain rfl rfl rfl (w_assign rfl (ev_tmp rfl)) ?_
        refine sq_nil ?_
        refine awp_cond (ev_tmp rfl) ?_ ?_
        · intro h69
          have k69 := eq_of_beqt h69; try simp only [List.length_map] at k69
          refine awp_seq ?_
          refine awp_region ?_
          refine sq_plain rfl rfl rfl (w_fldBn 1 rfl Tryz.underlying37 rfl Tryz.sizeOf3 (ev_tmp rfl) rfl) ?_
          refine sq_plain rfl rfl rfl (w_loadB1 0 rfl (ev_tmp rfl) rfl Tryz.isAgg3 rfl) ?_
          refine sq_plain rfl rfl rfl (w_call rfl Tryz.call109 rfl (l1In_spec _ _ _) (evl_cons (ev_tmp rfl) (evl_cons ev_ci (evl_cons ev_ci evl_nil)))) ?_
          refine sq_plain rfl rfl rfl (w_move rfl (ev_tmp rfl)) ?_
          refine sq_grd rfl rfl (guard_t rfl rfl rfl) (fun hc => w_fldBn 6 rfl Tryz.underlying37 rfl Tryz.sizeOf4 (ev_tmp rfl) rfl) ?_
          refine sq_grd rfl rfl (guard_t rfl rfl rfl) (fun hc => w_loadB1 0 rfl (ev_whn rfl hc) rfl Tryz.isAgg4 rfl) ?_
          refine sq_grd rfl rfl (guard_t rfl rfl rfl) (fun hc => w_move rfl (ev_whn rfl hc)) ?_
          refine sq_grd rfl rfl (guard_wt rfl rfl rfl) (fun hc => w_fldBn 2 rfl Tryz.underlying37 rfl Tryz.sizeOf3 (ev_tmp rfl) rfl) ?_
          refine sq_grd rfl rfl (guard_wt rfl rfl rfl) (fun hc => w_loadB1 0 rfl (ev_whn rfl hc) rfl Tryz.isAgg3 rfl) ?_
          refine sq_grd rfl rfl (guard_wt rfl rfl rfl) (fun hc => w_call rfl Tryz.call110 rfl (l3Time_spec _) (evl_cons (ev_whn rfl hc) evl_nil)) ?_
          refine sq_grd rfl rfl (guard_t rfl rfl rfl) (fun hc => w_and rfl (ev_whn rfl hc) (evif_w2 rfl hc)) ?_
          refine sq_grd rfl rfl (guard_t rfl rfl rfl) (fun hc => w_move rfl (ev_whn rfl hc)) ?_
          refine sq_grd rfl rfl (guard_wf rfl rfl rfl) (fun hc => w_fldBn 6 rfl Tryz.underlying37 rfl Tryz.sizeOf4 (ev_tmp rfl) rfl) ?_
          refine sq_grd rfl rfl (guard_wf rfl rfl rfl) (fun hc => w_loadB1 0 rfl (ev_whn rfl hc) rfl Tryz.isAgg4 rfl) ?_
          refine sq_grd rfl rfl (guard_wf rfl rfl rfl) (fun hc => w_not rfl (ev_whn rfl hc)) ?_
          refine sq_grd rfl rfl (guard_wf rfl rfl rfl) (fun hc => w_move rfl (ev_whn rfl hc)) ?_
          refine sq_grd rfl rfl (guard_wt rfl rfl rfl) (fun hc => w_fldBn 2 rfl Tryz.underlying37 rfl Tryz.sizeOf3 (ev_tmp rfl) rfl) ?_
          refine sq_grd rfl rfl (guard_wt rfl rfl rfl) (fun hc => w_loadB1 0 rfl (ev_whn rfl hc) rfl Tryz.isAgg3 rfl) ?_
          refine sq_grd rfl rfl (guard_wt rfl rfl rfl) (fun hc => w_eql rfl (ev_whn rfl hc) ev_ci) ?_
          refine sq_grd rfl rfl (guard_wf rfl rfl rfl) (fun hc => w_and rfl (ev_whn rfl hc) (evif_w2 rfl hc)) ?_
          refine sq_grd rfl rfl (guard_t rfl rfl rfl) (fun hc => w_or rfl (ev_whn rfl hc) (evif_w2 rfl hc)) ?_
          refine sq_plain rfl rfl rfl (w_and rfl (ev_tmp rfl) (evif_w rfl)) ?_
          refine sq_plain rfl rfl rfl (w_assign rfl (ev_tmp rfl)) ?_
          refine sq_nil ?_
          refine awp_ret ?_
          exact retR rfl (rv_tmp' rfl (by first | (exfalso; omega) | exact congrArg AV.bool (by unfold l4Good; rw [ho]; first | rfl | (unfold l4G1 l4G2 l4G4; simp [*]))))
        · intro h69
          have k69 := ne_of_beqf h69; try simp only [List.length_map] at k69
          refine awp_skip ?_
          refine awp_seq ?_
          refine awp_region ?_
          refine sq_plain rfl rfl rfl (w_fldBn 0 rfl Tryz.underlying37 rfl Tryz.sizeOf3 (ev_tmp rfl) rfl) ?_
          refine sq_plain rfl rfl rfl (w_loadB1 0 rfl (ev_tmp rfl) rfl Tryz.isAgg3 rfl) ?_
          refine sq_plain rfl rfl rfl (w_eql rfl (ev_tmp rfl) ev_ci) ?_
          refine sq_plain rfl rfl rfl (w_move rfl (ev_tmp rfl)) ?_
          refine sq_grd rfl rfl (guard_t rfl rfl rfl) (fun hc => w_fldBn 1 rfl Tryz.underlying37 rfl Tryz.sizeOf3 (ev_tmp rfl) rfl) ?_
          refine sq_grd rfl rfl (guard_t rfl rfl rfl) (fun hc => w_loadB1 0 rfl (ev_whn rfl hc) rfl Tryz.isAgg3 rfl) ?_
          refine sq_grd rfl rfl (guard_t rfl rfl rfl) (fun hc => w_eql rfl (ev_whn rfl hc) ev_ci) ?_
          refine sq_plain rfl rfl rfl (w_and rfl (ev_tmp rfl) (evif_w rfl)) ?_
          refine sq_plain rfl rfl rfl (w_move rfl (ev_tmp rfl)) ?_
          refine sq_grd rfl rfl (guard_t rfl rfl rfl) (fun hc => w_fldBn 2 rfl Tryz.underlying37 rfl Tryz.sizeOf3 (ev_tmp rfl) rfl) ?_
          refine sq_grd rfl rfl (guard_t rfl rfl rfl) (fun hc => w_loadB1 0 rfl (ev_whn rfl hc) rfl Tryz.isAgg3 rfl) ?_
          refine sq_grd rfl rfl (guard_t rfl rfl rfl) (fun hc => w_call rfl Tryz.call110 rfl (l3Time_spec _) (evl_cons (ev_whn rfl hc) evl_nil)) ?_
          refine sq_plain rfl rfl rfl (w_and rfl (ev_tmp rfl) (evif_w rfl)) ?_
          refine sq_plain rfl rfl rfl (w_move rfl (ev_tmp rfl)) ?_
          refine sq_grd rfl rfl (guard_t rfl rfl rfl) (fun hc => w_fldBn 6 rfl Tryz.underlying37 rfl Tryz.sizeOf4 (ev_tmp rfl) rfl) ?_
          refine sq_grd rfl rfl (guard_t rfl rfl rfl) (fun hc => w_loadB1 0 rfl (ev_whn rfl hc) rfl Tryz.isAgg4 rfl) ?_
          refine sq_grd rfl rfl (guard_t rfl rfl rfl) (fun hc => w_not rfl (ev_whn rfl hc)) ?_
          refine sq_plain rfl rfl rfl (w_and rfl (ev_tmp rfl) (evif_w rfl)) ?_
          refine sq_plain rfl rfl rfl (w_assign rfl (ev_tmp rfl)) ?_
          refine sq_nil ?_
          refine awp_ret ?_
          exact retR rfl (rv_tmp' rfl (by first | (exfalso; omega) | exact congrArg AV.bool (by unfold l4Good; rw [ho]; first | rfl | (unfold l4G1 l4G2 l4G4; simp [*]))))
theorem l4GoodR_spec (r : TRec) (hs : r.size ≤ 1048576) : FSpec Tryz.prog 22 [AV.agg r.cs] (AV.bool (l4Good r)) := by
  refine spec_of_awp Tryz.func22 rfl Tryz.ntmps22 rfl ?_
  refine awp_seq ?_
  refine awp_region ?_
  refine sq_box rfl rfl rfl rfl (ev_tmp rfl) ?_
  intro b1
  refine sq_plain rfl rfl rfl (w_assign rfl ev_cb) ?_
  refine sq_nil ?_
  refine awp_seq ?_
  refine awp_region ?_
  refine sq_plain rfl rfl rfl (w_loadA 0 rfl (ev_tmp rfl) rfl Tryz.isAgg37 Tryz.sizeOf37 rfl) ?_
  refine sq_plain rfl rfl rfl (w_call rfl Tryz.call56 rfl (l4Good_spec _ (by first | assumption | omega)) (evl_cons (ev_tmp rfl) evl_nil)) ?_
  refine sq_plain rfl rfl rfl (w_assign rfl (ev_tmp rfl)) ?_
  refine sq_nil ?_
  refine awp_ret ?_
  exact retR rfl (rv_tmp' rfl (by first | rfl | (refine congrArg AV.bool ?_; simp_all; done)))
end Go.Proofs.YtmlmmgeadombbaaGreatDoor

set_option linter.unusedVariables false
set_option linter.unusedSimpArgs false
set_option maxRecDepth 100000
set_option maxHeartbeats 1000000
namespace Go.Proofs.YtmlmmgeadombbaaGreatDoor
open Go Go.AV Go.M
attribute [local irreducible] OpW OpA OpS AWP FSpec ESpec GSpec OpE RetOk RetOkG RvDen Le Ev GuardIs SrcIs Int.tmod Int.tdiv IntKind.wrap
theorem keys_sizes {l : List Str} (h : l.length ≤ 8 ∧ ∀ s ∈ l, l3Key s = true) : sizeL (fun x : Str => x.length) l ≤ 1048576 := by
  have h1 : ∀ l : List Str, (∀ s ∈ l, l3Key s = true) → sizeL (fun x : Str => x.length) l ≤ 13 * l.length := by
    intro l
    induction l with
    | nil => intro _; simp [sizeL]
    | cons s l ih =>
      intro g
      have g1 := l3KeyR_len (g s List.mem_cons_self)
      have g2 := ih fun x hx => g x (List.mem_cons_of_mem _ hx)
      have g3 : sizeL (fun x : Str => x.length) (s :: l) = sizeL (fun x : Str => x.length) l + s.length + 1 := by unfold sizeL; simp; omega
      rw [g3, List.length_cons]; omega
  have := h1 l h.2
  omega
theorem recBytes_spec (r : TRec) (hg : goodRec r = true) : FSpec Tryz.prog 55 [AV.agg r.cs] (AV.str (recB r)) := by
  have h := goodR hg
  have k1 := h.kind; have k2 := h.txn; have k3 := h.time; have k4 := h.lead
  have k5 := h.writes.1; have k6 := h.reads.1
  have n1 := numB_len (k := 1) (n := r.Kind.toNat) (by omega) (by decide)
  have n2 := numB_len (k := 1) (n := r.Txn.toNat) (by omega) (by decide)
  have n3 := numB_len (k := 3) (n := r.Time.toNat) (by omega) (by decide)
  have n4 := numB_len (k := 1) (n := r.Lead.toNat) (by omega) (by decide)
  have n5 := textsB_len8 h.reads
  have n6 := numB_len (k := 1) (n := r.Writes.length) (by omega) (by decide)
  have n7 := flagB_len r.Yes
  have hhd := recHd_len h
  have hks := keys_sizes h.reads
  refine spec_of_awp Tryz.func55 rfl Tryz.ntmps55 rfl ?_
  refine awp_seq ?_
  refine awp_region ?_
  refine sq_box rfl rfl rfl rfl (ev_tmp rfl) ?_
  intro b1
  refine sq_plain rfl rfl rfl (w_assign rfl (ev_cs' (l := []) rfl)) ?_
  refine sq_nil ?_
  refine awp_seq ?_
  refine awp_region_any (by kernel_rfl) (by kernel_rfl) rfl ?_
  refine ch_plain rfl rfl (w_fldBn 0 rfl Tryz.underlying37 rfl Tryz.sizeOf3 (ev_tmp rfl) rfl) ?_
  refine ch_plain rfl rfl (w_loadB1 0 rfl (ev_tmp rfl) rfl Tryz.isAgg3 rfl) ?_
  refine ch_plain rfl rfl (w_call rfl Tryz.call104 rfl (numBytesI_spec r.Kind (by omega) (by omega)) (evl_cons (ev_tmp rfl) evl_nil)) ?_
  refine ch_plain rfl rfl (w_fldBn 1 rfl Tryz.underlying37 rfl Tryz.sizeOf3 (ev_tmp rfl) rfl) ?_
  refine ch_plain rfl rfl (w_loadB1 0 rfl (ev_tmp rfl) rfl Tryz.isAgg3 rfl) ?_
  refine ch_plain rfl rfl (w_call rfl Tryz.call104 rfl (numBytesI_spec r.Txn (by omega) (by omega)) (evl_cons (ev_tmp rfl) evl_nil)) ?_
  refine ch_plain rfl rfl (w_cat rfl (ev_tmp rfl) (ev_tmp rfl) (by first | omega | (simp only [List.length_append, List.length_take, List.length_drop, List.length_cons, List.length_nil]; omega))) ?_
  refine ch_plain rfl rfl (w_fldBn 2 rfl Tryz.underlying37 rfl Tryz.sizeOf3 (ev_tmp rfl) rfl) ?_
  refine ch_plain rfl rfl (w_loadB1 0 rfl (ev_tmp rfl) rfl Tryz.isAgg3 rfl) ?_
  refine ch_plain rfl rfl (w_call rfl Tryz.call104 rfl (numBytesI_spec r.Time (by omega) (by omega)) (evl_cons (ev_tmp rfl) evl_nil)) ?_
  refine ch_plain rfl rfl (w_cat rfl (ev_tmp rfl) (ev_tmp rfl) (by first | omega | (simp only [List.length_append, List.length_take, List.length_drop, List.length_cons, List.length_nil]; omega))) ?_
  refine ch_plain rfl rfl (w_fldBn 3 rfl Tryz.underlying37 rfl Tryz.sizeOf3 (ev_tmp rfl) rfl) ?_
  refine ch_plain rfl rfl (w_loadB1 0 rfl (ev_tmp rfl) rfl Tryz.isAgg3 rfl) ?_
  refine ch_plain rfl rfl (w_call rfl Tryz.call104 rfl (numBytesI_spec r.Lead (by omega) (by omega)) (evl_cons (ev_tmp rfl) evl_nil)) ?_
  refine ch_plain rfl rfl (w_cat rfl (ev_tmp rfl) (ev_tmp rfl) (by first | omega | (simp only [List.length_append, List.length_take, List.length_drop, List.length_cons, List.length_nil]; omega))) ?_
  refine ch_plain rfl rfl (w_fldBn 6 rfl Tryz.underlying37 rfl Tryz.sizeOf4 (ev_tmp rfl) rfl) ?_
  refine ch_plain rfl rfl (w_loadB1 0 rfl (ev_tmp rfl) rfl Tryz.isAgg4 rfl) ?_
  refine ch_plain rfl rfl (w_call rfl Tryz.call105 rfl (flagByte_spec _) (evl_cons (ev_tmp rfl) evl_nil)) ?_
  refine ch_plain rfl rfl (w_cat rfl (ev_tmp rfl) (ev_tmp rfl) (by first | omega | (simp only [List.length_append, List.length_take, List.length_drop, List.length_cons, List.length_nil]; omega))) ?_
  refine ch_plain rfl rfl (w_fldBn 4 rfl Tryz.underlying37 rfl Tryz.sizeOf34 (ev_tmp rfl) rfl) ?_
  refine ch_plain rfl rfl (w_loadB1 0 rfl (ev_tmp rfl) rfl Tryz.isAgg34 rfl) ?_
  refine ch_plain rfl rfl (w_call rfl Tryz.call106 rfl (textsBytes_spec r.Reads hks) (evl_cons (ev_tmp rfl) evl_nil)) ?_
  refine ch_plain rfl rfl (w_cat rfl (ev_tmp rfl) (ev_tmp rfl) (by first | omega | (simp only [List.length_append, List.length_take, List.length_drop, List.length_cons, List.length_nil]; omega))) ?_
  refine ch_plain rfl rfl (w_fldBn 5 rfl Tryz.underlying37 rfl Tryz.sizeOf35 (ev_tmp rfl) rfl) ?_
  refine ch_plain rfl rfl (w_loadB1 0 rfl (ev_tmp rfl) rfl Tryz.isAgg35 rfl) ?_
  refine ch_plain rfl rfl (w_llen rfl Tryz.underlying35 (ev_tmp rfl)) ?_
  refine ch_plain rfl rfl (w_call rfl Tryz.call104 rfl (numBytes_spec r.Writes.length (by omega)) (evl_cons (ev_tmp (congrArg (fun z => some (AV.int z)) (by rw [List.length_map]))) evl_nil)) ?_
  refine ch_plain rfl rfl (w_cat rfl (ev_tmp rfl) (ev_tmp rfl) (by first | omega | (simp only [List.length_append, List.length_take, List.length_drop, List.length_cons, List.length_nil]; omega))) ?_
  refine ch_plain rfl rfl (w_assign rfl (ev_tmp rfl)) ?_
  refine ch_nil ?_
  refine awp_seq ?_
  refine awp_seq ?_
  refine awp_region ?_
  refine sq_plain rfl rfl rfl (w_fldBn 5 rfl Tryz.underlying37 rfl Tryz.sizeOf35 (ev_tmp rfl) rfl) ?_
  refine sq_plain rfl rfl rfl (w_loadB1 0 rfl (ev_tmp rfl) rfl Tryz.isAgg35 rfl) ?_
  refine sq_plain rfl rfl rfl (w_llen rfl Tryz.underlying35 (ev_tmp rfl)) ?_
  refine sq_plain rfl rfl rfl (w_move rfl ev_ci) ?_
  refine sq_nil ?_
  refine awp_block ?_
  refine awp_loop_i [(2, _), (35, _), (36, _)] _ (fun (i : Nat) => i ≤ r.Writes.length) (fun (i : Nat) => []) (fun (i : Nat) => [(3, AV.str (recHd r ++ writesB (r.Writes.take i))), (37, AV.int i)]) (fun (i : Nat) => r.Writes.length - i) (0) ?_ (le_env ⟨congrArg (fun z => some (AV.str z)) (by rw [List.take_zero]; exact (List.append_nil _).symm), rfl, rfl, rfl, rfl, trivial⟩) ?_
  · exact Nat.zero_le _
  intro i hinv
  refine awp_seq ?_
  refine awp_region ?_
  refine sq_plain rfl rfl rfl (w_lss rfl (ev_tmp rfl) (ev_tmp rfl)) ?_
  refine sq_nil ?_
  refine awp_seq ?_
  refine awp_cond (ev_tmp rfl) ?_ ?_
  · intro h38
    have k38 := of_decide_eq_true h38; try simp only [List.length_map] at k38
    have hlt : i < r.Writes.length := by omega
    obtain ⟨x, hx⟩ := get_some hlt
    have hxg := h.writes.2 x (List.mem_of_getElem? hx)
    have hxk := l3KeyR_len hxg.1
    have hxv := l3ValR_len hxg.2.1
    have hwt := writesB_take h.writes i
    have hwl := (writeB_len ⟨hxg.1, hxg.2.1⟩).1
    have e1 := numB_len (k := 1) (n := x.Key.length) (by omega) (by decide)
    have e2 := numB_len (k := 1) (n := x.Val.length) (by omega) (by decide)
    have e3 : (textB x.Key).length ≤ 13 := by (unfold textB; rw [List.length_append]; omega)
    have e4 : (textB x.Val).length ≤ 25 := by (unfold textB; rw [List.length_append]; omega)
    have e5 := flagB_len x.Gone
    refine awp_skip ?_
    refine awp_seq ?_
    refine awp_block ?_
    refine awp_seq ?_
    refine awp_region ?_
    refine sq_plain rfl rfl rfl (w_idxm rfl Tryz.underlying35 Tryz.sizeOf79 (ev_tmp rfl) (ev_tmp rfl) hx (by first | omega | ((try simp only [List.length_map, List.length_take, List.length_cons, List.length_nil, chunks_len, szR] at *); omega) | (have hc2 := hc; simp only [Bool.and_eq_true, Bool.or_eq_true, Bool.or_eq_false_iff, Bool.and_eq_false_iff, Bool.not_eq_true', Bool.not_eq_false', decide_eq_true_eq, decide_eq_false_iff_not, beq_iff_eq, bne_iff_ne, List.length_map, List.length_take] at hc2; omega))) ?_
    refine sq_plain rfl rfl rfl (w_loadE rfl (ev_tmp rfl) Tryz.isAgg79 Tryz.sizeOf79) ?_
    refine sq_alloc rfl rfl rfl rfl Tryz.zeroValue79 rfl ?_
    intro b5
    refine sq_storeB0 0 rfl rfl rfl (ev_tmp rfl) (ev_tmp rfl) (as_agg _) rfl Tryz.sizeOf79 rfl ?_
    refine sq_nil ?_
    refine awp_region_any (by kernel_rfl) (by kernel_rfl) rfl ?_
    refine ch_plain rfl rfl (w_move rfl (ev_tmp rfl)) ?_
    refine ch_plain rfl rfl (w_fldBn 0 rfl Tryz.underlying79 rfl Tryz.sizeOf9 (ev_tmp rfl) rfl) ?_
    refine ch_plain rfl rfl (w_loadB1 0 rfl (ev_tmp rfl) rfl Tryz.isAgg9 rfl) ?_
    refine ch_plain rfl rfl (w_call rfl Tryz.call107 rfl (textBytes_spec _ (by first | assumption | omega)) (evl_cons (ev_tmp rfl) evl_nil)) ?_
    refine ch_plain rfl rfl (w_fldBn 2 rfl Tryz.underlying79 rfl Tryz.sizeOf4 (ev_tmp rfl) rfl) ?_
    refine ch_plain rfl rfl (w_loadB1 0 rfl (ev_tmp rfl) rfl Tryz.isAgg4 rfl) ?_
    refine ch_plain rfl rfl (w_call rfl Tryz.call105 rfl (flagByte_spec _) (evl_cons (ev_tmp rfl) evl_nil)) ?_
    refine ch_plain rfl rfl (w_cat rfl (ev_tmp rfl) (ev_tmp rfl) (by first | omega | (simp only [List.length_append, List.length_take, List.length_drop, List.length_cons, List.length_nil]; omega))) ?_
    refine ch_plain rfl rfl (w_fldBn 1 rfl Tryz.underlying79 rfl Tryz.sizeOf9 (ev_tmp rfl) rfl) ?_
    refine ch_plain rfl rfl (w_loadB1 0 rfl (ev_tmp rfl) rfl Tryz.isAgg9 rfl) ?_
    refine ch_plain rfl rfl (w_call rfl Tryz.call107 rfl (textBytes_spec _ (by first | assumption | omega)) (evl_cons (ev_tmp rfl) evl_nil)) ?_
    refine ch_plain rfl rfl (w_cat rfl (ev_tmp rfl) (ev_tmp rfl) (by first | omega | (simp only [List.length_append, List.length_take, List.length_drop, List.length_cons, List.length_nil]; omega))) ?_
    refine ch_plain rfl rfl (w_cat rfl (ev_tmp rfl) (ev_tmp rfl) (by first | omega | (simp only [List.length_append, List.length_take, List.length_drop, List.length_cons, List.length_nil]; omega))) ?_
    refine ch_plain rfl rfl (w_assign rfl (ev_tmp rfl)) ?_
    refine ch_nil ?_
    refine awp_region ?_
    refine sq_plain rfl rfl rfl (w_addi rfl (ev_tmp rfl) ev_ci (by first | omega | ((try simp only [List.length_map, List.length_take, List.length_cons, List.length_nil, chunks_len, szR] at *); omega) | (have hc2 := hc; simp only [Bool.and_eq_true, Bool.or_eq_true, Bool.or_eq_false_iff, Bool.and_eq_false_iff, Bool.not_eq_true', Bool.not_eq_false', decide_eq_true_eq, decide_eq_false_iff_not, beq_iff_eq, bne_iff_ne, List.length_map, List.length_take] at hc2; omega))) ?_
    refine sq_plain rfl rfl rfl (w_move rfl (ev_tmp rfl)) ?_
    refine sq_nil ?_
    refine round_end i (i + 1) ?_ ?_ (le_drop 1 ⟨congrArg (fun z => some (AV.str z)) (by rw [writesB_next hx]; simp [writeB]), rfl, rfl, rfl, rfl, trivial⟩)
    · omega
    · omega
  · intro h38
    have k38 := of_decide_eq_false h38; try simp only [List.length_map] at k38
    have hge : i = r.Writes.length := by omega
    have hwt := writesB_take h.writes i
    refine awp_exit ?_
    refine awp_seq ?_
    refine awp_region ?_
    refine sq_plain rfl rfl rfl (w_move rfl (ev_tmp rfl)) ?_
    refine sq_plain rfl rfl rfl (w_call rfl Tryz.call108 rfl (seal_spec _ (by rw [List.length_append]; omega)) (evl_cons (ev_tmp rfl) evl_nil)) ?_
    refine sq_plain rfl rfl rfl (w_assign rfl (ev_tmp rfl)) ?_
    refine sq_nil ?_
    refine awp_ret ?_
    exact retR rfl (rv_tmp' rfl (by exact congrArg AV.str (by rw [hge, List.take_length]; rfl)))
theorem l4Bytes_spec (r : TRec) (hg : goodRec r = true) : FSpec Tryz.prog 57 [AV.agg r.cs] (AV.str (recB r)) := by
  have h := goodR hg
  have k1 := h.kind; have k2 := h.txn; have k3 := h.time; have k4 := h.lead
  have k5 := h.writes.1; have k6 := h.reads.1
  have n1 := numB_len (k := 1) (n := r.Kind.toNat) (by omega) (by decide)
  have n2 := numB_len (k := 1) (n := r.Txn.toNat) (by omega) (by decide)
  have n3 := numB_len (k := 3) (n := r.Time.toNat) (by omega) (by decide)
  have n4 := numB_len (k := 1) (n := r.Lead.toNat) (by omega) (by decide)
  have n5 := textsB_len8 h.reads
  have n6 := numB_len (k := 1) (n := r.Writes.length) (by omega) (by decide)
  have n7 := flagB_len r.Yes
  have hhd := recHd_len h
  have hks := keys_sizes h.reads
  refine spec_of_awp Tryz.func57 rfl Tryz.ntmps57 rfl ?_
  refine awp_seq ?_
  refine awp_region ?_
  refine sq_box rfl rfl rfl rfl (ev_tmp rfl) ?_
  intro b1
  refine sq_plain rfl rfl rfl (w_assign rfl (ev_cs' (l := []) rfl)) ?_
  refine sq_nil ?_
  refine awp_seq ?_
  refine awp_region_any (by kernel_rfl) (by kernel_rfl) rfl ?_
  refine ch_plain rfl rfl (w_fldBn 0 rfl Tryz.underlying37 rfl Tryz.sizeOf3 (ev_tmp rfl) rfl) ?_
  refine ch_plain rfl rfl (w_loadB1 0 rfl (ev_tmp rfl) rfl Tryz.isAgg3 rfl) ?_
  refine ch_plain rfl rfl (w_call rfl Tryz.call113 rfl (numBS_spec r.Kind (by omega) (by omega)) (evl_cons (ev_tmp rfl) evl_nil)) ?_
  refine ch_plain rfl rfl (w_fldBn 1 rfl Tryz.underlying37 rfl Tryz.sizeOf3 (ev_tmp rfl) rfl) ?_
  refine ch_plain rfl rfl (w_loadB1 0 rfl (ev_tmp rfl) rfl Tryz.isAgg3 rfl) ?_
  refine ch_plain rfl rfl (w_call rfl Tryz.call113 rfl (numBS_spec r.Txn (by omega) (by omega)) (evl_cons (ev_tmp rfl) evl_nil)) ?_
  refine ch_plain rfl rfl (w_cat rfl (ev_tmp rfl) (ev_tmp rfl) (by first | omega | (simp only [List.length_append, List.length_take, List.length_drop, List.length_cons, List.length_nil]; omega))) ?_
  refine ch_plain rfl rfl (w_fldBn 2 rfl Tryz.underlying37 rfl Tryz.sizeOf3 (ev_tmp rfl) rfl) ?_
  refine ch_plain rfl rfl (w_loadB1 0 rfl (ev_tmp rfl) rfl Tryz.isAgg3 rfl) ?_
  refine ch_plain rfl rfl (w_call rfl Tryz.call113 rfl (numBS_spec r.Time (by omega) (by omega)) (evl_cons (ev_tmp rfl) evl_nil)) ?_
  refine ch_plain rfl rfl (w_cat rfl (ev_tmp rfl) (ev_tmp rfl) (by first | omega | (simp only [List.length_append, List.length_take, List.length_drop, List.length_cons, List.length_nil]; omega))) ?_
  refine ch_plain rfl rfl (w_fldBn 3 rfl Tryz.underlying37 rfl Tryz.sizeOf3 (ev_tmp rfl) rfl) ?_
  refine ch_plain rfl rfl (w_loadB1 0 rfl (ev_tmp rfl) rfl Tryz.isAgg3 rfl) ?_
  refine ch_plain rfl rfl (w_call rfl Tryz.call113 rfl (numBS_spec r.Lead (by omega) (by omega)) (evl_cons (ev_tmp rfl) evl_nil)) ?_
  refine ch_plain rfl rfl (w_cat rfl (ev_tmp rfl) (ev_tmp rfl) (by first | omega | (simp only [List.length_append, List.length_take, List.length_drop, List.length_cons, List.length_nil]; omega))) ?_
  refine ch_plain rfl rfl (w_fldBn 6 rfl Tryz.underlying37 rfl Tryz.sizeOf4 (ev_tmp rfl) rfl) ?_
  refine ch_plain rfl rfl (w_loadB1 0 rfl (ev_tmp rfl) rfl Tryz.isAgg4 rfl) ?_
  refine ch_plain rfl rfl (w_call rfl Tryz.call114 rfl (l4Flag_spec _) (evl_cons (ev_tmp rfl) evl_nil)) ?_
  refine ch_plain rfl rfl (w_cat rfl (ev_tmp rfl) (ev_tmp rfl) (by first | omega | (simp only [List.length_append, List.length_take, List.length_drop, List.length_cons, List.length_nil]; omega))) ?_
  refine ch_plain rfl rfl (w_fldBn 4 rfl Tryz.underlying37 rfl Tryz.sizeOf34 (ev_tmp rfl) rfl) ?_
  refine ch_plain rfl rfl (w_loadB1 0 rfl (ev_tmp rfl) rfl Tryz.isAgg34 rfl) ?_
  refine ch_plain rfl rfl (w_call rfl Tryz.call115 rfl (l1TextsB_spec r.Reads hks) (evl_cons (ev_tmp rfl) evl_nil)) ?_
  refine ch_plain rfl rfl (w_cat rfl (ev_tmp rfl) (ev_tmp rfl) (by first | omega | (simp only [List.length_append, List.length_take, List.length_drop, List.length_cons, List.length_nil]; omega))) ?_
  refine ch_plain rfl rfl (w_fldBn 5 rfl Tryz.underlying37 rfl Tryz.sizeOf35 (ev_tmp rfl) rfl) ?_
  refine ch_plain rfl rfl (w_loadB1 0 rfl (ev_tmp rfl) rfl Tryz.isAgg35 rfl) ?_
  refine ch_plain rfl rfl (w_llen rfl Tryz.underlying35 (ev_tmp rfl)) ?_
  refine ch_plain rfl rfl (w_call rfl Tryz.call113 rfl (numBSn_spec r.Writes.length (by omega)) (evl_cons (ev_tmp (congrArg (fun z => some (AV.int z)) (by rw [List.length_map]))) evl_nil)) ?_
  refine ch_plain rfl rfl (w_cat rfl (ev_tmp rfl) (ev_tmp rfl) (by first | omega | (simp only [List.length_append, List.length_take, List.length_drop, List.length_cons, List.length_nil]; omega))) ?_
  refine ch_plain rfl rfl (w_assign rfl (ev_tmp rfl)) ?_
  refine ch_nil ?_
  refine awp_seq ?_
  refine awp_seq ?_
  refine awp_region ?_
  refine sq_plain rfl rfl rfl (w_fldBn 5 rfl Tryz.underlying37 rfl Tryz.sizeOf35 (ev_tmp rfl) rfl) ?_
  refine sq_plain rfl rfl rfl (w_loadB1 0 rfl (ev_tmp rfl) rfl Tryz.isAgg35 rfl) ?_
  refine sq_plain rfl rfl rfl (w_llen rfl Tryz.underlying35 (ev_tmp rfl)) ?_
  refine sq_plain rfl rfl rfl (w_move rfl ev_ci) ?_
  refine sq_nil ?_
  refine awp_block ?_
  refine awp_loop_i [(2, _), (35, _), (36, _)] _ (fun (i : Nat) => i ≤ r.Writes.length) (fun (i : Nat) => []) (fun (i : Nat) => [(3, AV.str (recHd r ++ writesB (r.Writes.take i))), (37, AV.int i)]) (fun (i : Nat) => r.Writes.length - i) (0) ?_ (le_env ⟨congrArg (fun z => some (AV.str z)) (by rw [List.take_zero]; exact (List.append_nil _).symm), rfl, rfl, rfl, rfl, trivial⟩) ?_
  · exact Nat.zero_le _
  intro i hinv
  refine awp_seq ?_
  refine awp_region ?_
  refine sq_plain rfl rfl rfl (w_lss rfl (ev_tmp rfl) (ev_tmp rfl)) ?_
  refine sq_nil ?_
  refine awp_seq ?_
  refine awp_cond (ev_tmp rfl) ?_ ?_
  · intro h38
    have k38 := of_decide_eq_true h38; try simp only [List.length_map] at k38
    have hlt : i < r.Writes.length := by omega
    obtain ⟨x, hx⟩ := get_some hlt
    have hxg := h.writes.2 x (List.mem_of_getElem? hx)
    have hxk := l3KeyR_len hxg.1
    have hxv := l3ValR_len hxg.2.1
    have hwt := writesB_take h.writes i
    have hwl := (writeB_len ⟨hxg.1, hxg.2.1⟩).1
    have e1 := numB_len (k := 1) (n := x.Key.length) (by omega) (by decide)
    have e2 := numB_len (k := 1) (n := x.Val.length) (by omega) (by decide)
    have e3 : (textB x.Key).length ≤ 13 := by (unfold textB; rw [List.length_append]; omega)
    have e4 : (textB x.Val).length ≤ 25 := by (unfold textB; rw [List.length_append]; omega)
    have e5 := flagB_len x.Gone
    refine awp_skip ?_
    refine awp_seq ?_
    refine awp_block ?_
    refine awp_seq ?_
    refine awp_region ?_
    refine sq_plain rfl rfl rfl (w_idxm rfl Tryz.underlying35 Tryz.sizeOf79 (ev_tmp rfl) (ev_tmp rfl) hx (by first | omega | ((try simp only [List.length_map, List.length_take, List.length_cons, List.length_nil, chunks_len, szR] at *); omega) | (have hc2 := hc; simp only [Bool.and_eq_true, Bool.or_eq_true, Bool.or_eq_false_iff, Bool.and_eq_false_iff, Bool.not_eq_true', Bool.not_eq_false', decide_eq_true_eq, decide_eq_false_iff_not, beq_iff_eq, bne_iff_ne, List.length_map, List.length_take] at hc2; omega))) ?_
    refine sq_plain rfl rfl rfl (w_loadE rfl (ev_tmp rfl) Tryz.isAgg79 Tryz.sizeOf79) ?_
    refine sq_alloc rfl rfl rfl rfl Tryz.zeroValue79 rfl ?_
    intro b5
    refine sq_storeB0 0 rfl rfl rfl (ev_tmp rfl) (ev_tmp rfl) (as_agg _) rfl Tryz.sizeOf79 rfl ?_
    refine sq_nil ?_
    refine awp_region_any (by kernel_rfl) (by kernel_rfl) rfl ?_
    refine ch_plain rfl rfl (w_move rfl (ev_tmp rfl)) ?_
    refine ch_plain rfl rfl (w_fldBn 0 rfl Tryz.underlying79 rfl Tryz.sizeOf9 (ev_tmp rfl) rfl) ?_
    refine ch_plain rfl rfl (w_loadB1 0 rfl (ev_tmp rfl) rfl Tryz.isAgg9 rfl) ?_
    refine ch_plain rfl rfl (w_call rfl Tryz.call116 rfl (l1TextB_spec _ (by first | assumption | omega)) (evl_cons (ev_tmp rfl) evl_nil)) ?_
    refine ch_plain rfl rfl (w_fldBn 2 rfl Tryz.underlying79 rfl Tryz.sizeOf4 (ev_tmp rfl) rfl) ?_
    refine ch_plain rfl rfl (w_loadB1 0 rfl (ev_tmp rfl) rfl Tryz.isAgg4 rfl) ?_
    refine ch_plain rfl rfl (w_call rfl Tryz.call114 rfl (l4Flag_spec _) (evl_cons (ev_tmp rfl) evl_nil)) ?_
    refine ch_plain rfl rfl (w_cat rfl (ev_tmp rfl) (ev_tmp rfl) (by first | omega | (simp only [List.length_append, List.length_take, List.length_drop, List.length_cons, List.length_nil]; omega))) ?_
    refine ch_plain rfl rfl (w_fldBn 1 rfl Tryz.underlying79 rfl Tryz.sizeOf9 (ev_tmp rfl) rfl) ?_
    refine ch_plain rfl rfl (w_loadB1 0 rfl (ev_tmp rfl) rfl Tryz.isAgg9 rfl) ?_
    refine ch_plain rfl rfl (w_call rfl Tryz.call116 rfl (l1TextB_spec _ (by first | assumption | omega)) (evl_cons (ev_tmp rfl) evl_nil)) ?_
    refine ch_plain rfl rfl (w_cat rfl (ev_tmp rfl) (ev_tmp rfl) (by first | omega | (simp only [List.length_append, List.length_take, List.length_drop, List.length_cons, List.length_nil]; omega))) ?_
    refine ch_plain rfl rfl (w_cat rfl (ev_tmp rfl) (ev_tmp rfl) (by first | omega | (simp only [List.length_append, List.length_take, List.length_drop, List.length_cons, List.length_nil]; omega))) ?_
    refine ch_plain rfl rfl (w_assign rfl (ev_tmp rfl)) ?_
    refine ch_nil ?_
    refine awp_region ?_
    refine sq_plain rfl rfl rfl (w_addi rfl (ev_tmp rfl) ev_ci (by first | omega | ((try simp only [List.length_map, List.length_take, List.length_cons, List.length_nil, chunks_len, szR] at *); omega) | (have hc2 := hc; simp only [Bool.and_eq_true, Bool.or_eq_true, Bool.or_eq_false_iff, Bool.and_eq_false_iff, Bool.not_eq_true', Bool.not_eq_false', decide_eq_true_eq, decide_eq_false_iff_not, beq_iff_eq, bne_iff_ne, List.length_map, List.length_take] at hc2; omega))) ?_
    refine sq_plain rfl rfl rfl (w_move rfl (ev_tmp rfl)) ?_
    refine sq_nil ?_
    refine round_end i (i + 1) ?_ ?_ (le_drop 1 ⟨congrArg (fun z => some (AV.str z)) (by rw [writesB_next hx]; simp [writeB]), rfl, rfl, rfl, rfl, trivial⟩)
    · omega
    · omega
  · intro h38
    have k38 := of_decide_eq_false h38; try simp only [List.length_map] at k38
    have hge : i = r.Writes.length := by omega
    have hwt := writesB_take h.writes i
    refine awp_exit ?_
    refine awp_seq ?_
    refine awp_region ?_
    refine sq_plain rfl rfl rfl (w_move rfl (ev_tmp rfl)) ?_
    refine sq_plain rfl rfl rfl (w_call rfl Tryz.call79 rfl (l1Seal_spec _ (by rw [List.length_append]; omega)) (evl_cons (ev_tmp rfl) evl_nil)) ?_
    refine sq_plain rfl rfl rfl (w_assign rfl (ev_tmp rfl)) ?_
    refine sq_nil ?_
    refine awp_ret ?_
    exact retR rfl (rv_tmp' rfl (by exact congrArg AV.str (by rw [hge, List.take_length]; rfl)))
theorem recBytesR_spec (r : TRec) (hs : r.size ≤ 1048576) : FSpec Tryz.prog 17 [AV.agg r.cs] (AV.tup [AV.str (recBytesR r).1, AV.bool (recBytesR r).2]) := by
  refine spec_of_awp Tryz.func17 rfl Tryz.ntmps17 rfl ?_
  refine awp_seq ?_
  refine awp_region ?_
  refine sq_box rfl rfl rfl rfl (ev_tmp rfl) ?_
  intro b1
  refine sq_plain rfl rfl rfl (w_assign rfl (ev_cs' (l := []) rfl)) ?_
  refine sq_plain rfl rfl rfl (w_assign rfl ev_cb) ?_
  refine sq_nil ?_
  refine awp_seq ?_
  refine awp_seq ?_
  refine awp_region ?_
  refine sq_plain rfl rfl rfl (w_loadA 0 rfl (ev_tmp rfl) rfl Tryz.isAgg37 Tryz.sizeOf37 rfl) ?_
  refine sq_plain rfl rfl rfl (w_call rfl Tryz.call21 rfl (goodRec_spec _ (by first | assumption | omega)) (evl_cons (ev_tmp rfl) evl_nil)) ?_
  refine sq_plain rfl rfl rfl (w_not rfl (ev_tmp rfl)) ?_
  refine sq_nil ?_
  refine awp_cond (ev_tmp rfl) ?_ ?_
  · intro h6
    have he : recBytesR r = ([], false) := if_neg (by simpa using h6)
    rw [he]
    refine awp_seq ?_
    refine awp_region ?_
    refine sq_plain rfl rfl rfl (w_assign rfl (ev_cs' (l := []) rfl)) ?_
    refine sq_plain rfl rfl rfl (w_assign rfl ev_cb) ?_
    refine sq_nil ?_
    refine awp_ret ?_
    exact retN rfl (by decide) (rv_cons (rv_tmp' rfl (by rfl)) (rv_cons (rv_tmp' rfl (by rfl)) rv_nil))
  · intro h6
    have hg : goodRec r = true := by simpa using h6
    have he : recBytesR r = (recB r, true) := if_pos hg
    rw [he]
    refine awp_skip ?_
    refine awp_seq ?_
    refine awp_region ?_
    refine sq_plain rfl rfl rfl (w_loadA 0 rfl (ev_tmp rfl) rfl Tryz.isAgg37 Tryz.sizeOf37 rfl) ?_
    refine sq_plain rfl rfl rfl (w_call rfl Tryz.call55 rfl (recBytes_spec r hg) (evl_cons (ev_tmp rfl) evl_nil)) ?_
    refine sq_plain rfl rfl rfl (w_assign rfl (ev_tmp rfl)) ?_
    refine sq_plain rfl rfl rfl (w_assign rfl ev_cb) ?_
    refine sq_nil ?_
    refine awp_ret ?_
    exact retN rfl (by decide) (rv_cons (rv_tmp' rfl (by rfl)) (rv_cons (rv_tmp' rfl (by rfl)) rv_nil))
theorem recBytesS_spec (r : TRec) (hs : r.size ≤ 1048576) : FSpec Tryz.prog 18 [AV.agg r.cs] (AV.tup [AV.str (recBytesR r).1, AV.bool (recBytesR r).2]) := by
  refine spec_of_awp Tryz.func18 rfl Tryz.ntmps18 rfl ?_
  refine awp_seq ?_
  refine awp_region ?_
  refine sq_box rfl rfl rfl rfl (ev_tmp rfl) ?_
  intro b1
  refine sq_plain rfl rfl rfl (w_assign rfl (ev_cs' (l := []) rfl)) ?_
  refine sq_plain rfl rfl rfl (w_assign rfl ev_cb) ?_
  refine sq_nil ?_
  refine awp_seq ?_
  refine awp_seq ?_
  refine awp_region ?_
  refine sq_plain rfl rfl rfl (w_loadA 0 rfl (ev_tmp rfl) rfl Tryz.isAgg37 Tryz.sizeOf37 rfl) ?_
  refine sq_plain rfl rfl rfl (w_call rfl Tryz.call56 rfl (l4Good_spec _ (by first | assumption | omega)) (evl_cons (ev_tmp rfl) evl_nil)) ?_
  refine sq_plain rfl rfl rfl (w_not rfl (ev_tmp rfl)) ?_
  refine sq_nil ?_
  refine awp_cond (ev_tmp rfl) ?_ ?_
  · intro h6
    have he : recBytesR r = ([], false) := if_neg (by rw [goodRec_eq]; simpa using h6)
    rw [he]
    refine awp_seq ?_
    refine awp_region ?_
    refine sq_plain rfl rfl rfl (w_assign rfl (ev_cs' (l := []) rfl)) ?_
    refine sq_plain rfl rfl rfl (w_assign rfl ev_cb) ?_
    refine sq_nil ?_
    refine awp_ret ?_
    exact retN rfl (by decide) (rv_cons (rv_tmp' rfl (by rfl)) (rv_cons (rv_tmp' rfl (by rfl)) rv_nil))
  · intro h6
    have hg : goodRec r = true := by (rw [goodRec_eq]; simpa using h6)
    have he : recBytesR r = (recB r, true) := if_pos hg
    rw [he]
    refine awp_skip ?_
    refine awp_seq ?_
    refine awp_region ?_
    refine sq_plain rfl rfl rfl (w_loadA 0 rfl (ev_tmp rfl) rfl Tryz.isAgg37 Tryz.sizeOf37 rfl) ?_
    refine sq_plain rfl rfl rfl (w_call rfl Tryz.call57 rfl (l4Bytes_spec r hg) (evl_cons (ev_tmp rfl) evl_nil)) ?_
    refine sq_plain rfl rfl rfl (w_assign rfl (ev_tmp rfl)) ?_
    refine sq_plain rfl rfl rfl (w_assign rfl ev_cb) ?_
    refine sq_nil ?_
    refine awp_ret ?_
    exact retN rfl (by decide) (rv_cons (rv_tmp' rfl (by rfl)) (rv_cons (rv_tmp' rfl (by rfl)) rv_nil))
theorem seal_not (b : Str) : (!within (b.length : Int) 3 6000 || (sealB' (b.take (b.length - 3)) != b)) = !sealOk b := by
  unfold sealOk; rw [Bool.not_and]; rfl
theorem seal_not2 (b : Str) : ((decide ((b.length : Int) - 3 < 0) || decide (6000 < (b.length : Int))) || (sealB' (b.take (b.length - 3)) != b)) = !sealOk b := by
  rw [← seal_not]
  congr 1
  unfold within
  rw [Bool.eq_iff_iff]
  simp; omega
theorem openSeal_spec (b : Str) (hs : b.length ≤ 1048576) : FSpec Tryz.prog 65 [AV.str b] (AV.tup [AV.str (openR b).1, AV.bool (openR b).2]) := by
  have ht : ((b.length : Int) - 3).toNat = b.length - 3 := by omega
  have hw : within (b.length : Int) 3 6000 = true → 3 ≤ b.length := fun h => by unfold within at h; simp at h; omega
  have hl : (b.take (b.length - 3)).length ≤ 1048576 := by rw [List.length_take]; omega
  refine spec_of_awp Tryz.func65 rfl Tryz.ntmps65 rfl ?_
  refine awp_seq ?_
  refine awp_region ?_
  refine sq_plain rfl rfl rfl (w_assign rfl (ev_cs' (l := []) rfl)) ?_
  refine sq_plain rfl rfl rfl (w_assign rfl ev_cb) ?_
  refine sq_nil ?_
  refine awp_seq ?_
  refine awp_seq ?_
  refine awp_region ?_
  refine sq_plain rfl rfl rfl (w_move rfl (ev_tmp rfl)) ?_
  refine sq_plain rfl rfl rfl (w_slen rfl Tryz.underlying9 (ev_tmp rfl)) ?_
  refine sq_plain rfl rfl rfl (w_call rfl Tryz.call62 rfl (within_spec _ _ _) (evl_cons (ev_tmp rfl) (evl_cons ev_ci (evl_cons ev_ci evl_nil)))) ?_
  refine sq_plain rfl rfl rfl (w_not rfl (ev_tmp rfl)) ?_
  refine sq_plain rfl rfl rfl (w_move rfl (ev_tmp rfl)) ?_
  refine sq_grd rfl rfl (guard_f rfl rfl rfl) (fun hc => w_move rfl (ev_tmp rfl)) ?_
  refine sq_grd rfl rfl (guard_f rfl rfl rfl) (fun hc => w_move rfl (ev_tmp rfl)) ?_
  refine sq_grd rfl rfl (guard_f rfl rfl rfl) (fun hc => w_slen rfl Tryz.underlying9 (ev_whn rfl hc)) ?_
  refine sq_grd rfl rfl (guard_f rfl rfl rfl) (fun hc => w_subi rfl (ev_whn rfl hc) ev_ci (by first | omega | ((try simp only [List.length_map, List.length_take, List.length_cons, List.length_nil, chunks_len, szR] at *); omega) | (have hc2 := hc; simp only [Bool.and_eq_true, Bool.or_eq_true, Bool.or_eq_false_iff, Bool.and_eq_false_iff, Bool.not_eq_true', Bool.not_eq_false', decide_eq_true_eq, decide_eq_false_iff_not, beq_iff_eq, bne_iff_ne, List.length_map, List.length_take] at hc2; omega))) ?_
  refine sq_grd rfl rfl (guard_f rfl rfl rfl) (fun hc => w_ssl_hi rfl Tryz.underlying9 (ev_whn rfl hc) (ev_whn rfl hc) (by have h9 := hw (by simpa using hc); omega) (by have h9 := hw (by simpa using hc); omega)) ?_
  rw [ht]
  refine sq_grd rfl rfl (guard_f rfl rfl rfl) (fun hc => w_call rfl Tryz.call108 rfl (seal_spec _ (by first | assumption | omega)) (evl_cons (ev_whn rfl hc) evl_nil)) ?_
  refine sq_grd rfl rfl (guard_f rfl rfl rfl) (fun hc => w_move rfl (ev_tmp rfl)) ?_
  refine sq_grd rfl rfl (guard_f rfl rfl rfl) (fun hc => w_sneq rfl (ev_whn rfl hc) (ev_whn rfl hc)) ?_
  refine sq_plain rfl rfl rfl (w_or rfl (ev_tmp rfl) (evif_w rfl)) ?_
  refine sq_nil ?_
  refine awp_cond (ev_tmp rfl) ?_ ?_
  · intro h17
    rw [seal_not] at h17
    have he : openR b = ([], false) := if_neg (by simpa using h17)
    rw [he]
    refine awp_seq ?_
    skip
    refine awp_region ?_
    refine sq_plain rfl rfl rfl (w_assign rfl (ev_cs' (l := []) rfl)) ?_
    refine sq_plain rfl rfl rfl (w_assign rfl ev_cb) ?_
    refine sq_nil ?_
    refine awp_ret ?_
    exact retN rfl (by decide) (rv_cons (rv_tmp' rfl (by first | rfl | exact congrArg AV.str (by rw [ht]))) (rv_cons (rv_tmp' rfl (by first | rfl | exact congrArg AV.str (by rw [ht]))) rv_nil))
  · intro h17
    rw [seal_not] at h17
    have ho : sealOk b = true := by simpa using h17
    have he : openR b = (b.take (b.length - 3), true) := if_pos ho
    rw [he]
    have h9 := hw (by unfold sealOk at ho; rw [Bool.and_eq_true] at ho; exact ho.1)
    refine awp_skip ?_
    refine awp_seq ?_
    refine awp_region ?_
    refine sq_plain rfl rfl rfl (w_move rfl (ev_tmp rfl)) ?_
    refine sq_plain rfl rfl rfl (w_move rfl (ev_tmp rfl)) ?_
    refine sq_plain rfl rfl rfl (w_slen rfl Tryz.underlying9 (ev_tmp rfl)) ?_
    refine sq_plain rfl rfl rfl (w_subi rfl (ev_tmp rfl) ev_ci (by first | omega | ((try simp only [List.length_map, List.length_take, List.length_cons, List.length_nil, chunks_len, szR] at *); omega) | (have hc2 := hc; simp only [Bool.and_eq_true, Bool.or_eq_true, Bool.or_eq_false_iff, Bool.and_eq_false_iff, Bool.not_eq_true', Bool.not_eq_false', decide_eq_true_eq, decide_eq_false_iff_not, beq_iff_eq, bne_iff_ne, List.length_map, List.length_take] at hc2; omega))) ?_
    refine sq_plain rfl rfl rfl (w_ssl_hi rfl Tryz.underlying9 (ev_tmp rfl) (ev_tmp rfl) (by omega) (by omega)) ?_
    refine sq_plain rfl rfl rfl (w_assign rfl (ev_tmp rfl)) ?_
    refine sq_plain rfl rfl rfl (w_assign rfl ev_cb) ?_
    refine sq_nil ?_
    refine awp_ret ?_
    exact retN rfl (by decide) (rv_cons (rv_tmp' rfl (by first | rfl | exact congrArg AV.str (by rw [ht]))) (rv_cons (rv_tmp' rfl (by first | rfl | exact congrArg AV.str (by rw [ht]))) rv_nil))
theorem openSealS_spec (b : Str) (hs : b.length ≤ 1048576) : FSpec Tryz.prog 80 [AV.str b] (AV.tup [AV.str (openR b).1, AV.bool (openR b).2]) := by
  have ht : ((b.length : Int) - 3).toNat = b.length - 3 := by omega
  have hl : (b.take (b.length - 3)).length ≤ 1048576 := by rw [List.length_take]; omega
  refine spec_of_awp Tryz.func80 rfl Tryz.ntmps80 rfl ?_
  refine awp_seq ?_
  refine awp_region ?_
  refine sq_plain rfl rfl rfl (w_assign rfl (ev_cs' (l := []) rfl)) ?_
  refine sq_plain rfl rfl rfl (w_assign rfl ev_cb) ?_
  refine sq_nil ?_
  refine awp_seq ?_
  refine awp_region ?_
  refine sq_plain rfl rfl rfl (w_move rfl (ev_tmp rfl)) ?_
  refine sq_plain rfl rfl rfl (w_slen rfl Tryz.underlying9 (ev_tmp rfl)) ?_
  refine sq_plain rfl rfl rfl (w_subi rfl (ev_tmp rfl) ev_ci (by first | omega | ((try simp only [List.length_map, List.length_take, List.length_cons, List.length_nil, chunks_len, szR] at *); omega) | (have hc2 := hc; simp only [Bool.and_eq_true, Bool.or_eq_true, Bool.or_eq_false_iff, Bool.and_eq_false_iff, Bool.not_eq_true', Bool.not_eq_false', decide_eq_true_eq, decide_eq_false_iff_not, beq_iff_eq, bne_iff_ne, List.length_map, List.length_take] at hc2; omega))) ?_
  refine sq_plain rfl rfl rfl (w_assign rfl (ev_tmp rfl)) ?_
  refine sq_nil ?_
  refine awp_seq ?_
  refine awp_seq ?_
  refine awp_region ?_
  refine sq_plain rfl rfl rfl (w_move rfl (ev_tmp rfl)) ?_
  refine sq_plain rfl rfl rfl (w_lss rfl (ev_tmp rfl) ev_ci) ?_
  refine sq_plain rfl rfl rfl (w_move rfl (ev_tmp rfl)) ?_
  refine sq_grd rfl rfl (guard_f rfl rfl rfl) (fun hc => w_move rfl (ev_tmp rfl)) ?_
  refine sq_grd rfl rfl (guard_f rfl rfl rfl) (fun hc => w_slen rfl Tryz.underlying9 (ev_whn rfl hc)) ?_
  refine sq_grd rfl rfl (guard_f rfl rfl rfl) (fun hc => w_gtr rfl (ev_whn rfl hc) ev_ci) ?_
  refine sq_plain rfl rfl rfl (w_or rfl (ev_tmp rfl) (evif_w rfl)) ?_
  refine sq_plain rfl rfl rfl (w_move rfl (ev_tmp rfl)) ?_
  refine sq_grd rfl rfl (guard_f rfl rfl rfl) (fun hc => w_move rfl (ev_tmp rfl)) ?_
  refine sq_grd rfl rfl (guard_f rfl rfl rfl) (fun hc => w_move rfl (ev_tmp rfl)) ?_
  refine sq_grd rfl rfl (guard_f rfl rfl rfl) (fun hc => w_ssl_hi rfl Tryz.underlying9 (ev_whn rfl hc) (ev_whn rfl hc) (by have h9 := hc; simp at h9; omega) (by have h9 := hc; simp at h9; omega)) ?_
  rw [ht]
  refine sq_grd rfl rfl (guard_f rfl rfl rfl) (fun hc => w_call rfl Tryz.call79 rfl (l1Seal_spec _ (by first | assumption | omega)) (evl_cons (ev_whn rfl hc) evl_nil)) ?_
  refine sq_grd rfl rfl (guard_f rfl rfl rfl) (fun hc => w_move rfl (ev_tmp rfl)) ?_
  refine sq_grd rfl rfl (guard_f rfl rfl rfl) (fun hc => w_sneq rfl (ev_whn rfl hc) (ev_whn rfl hc)) ?_
  refine sq_plain rfl rfl rfl (w_or rfl (ev_tmp rfl) (evif_w rfl)) ?_
  refine sq_nil ?_
  refine awp_cond (ev_tmp rfl) ?_ ?_
  · intro h22
    rw [seal_not2] at h22
    have he : openR b = ([], false) := if_neg (by simpa using h22)
    rw [he]
    refine awp_seq ?_
    refine awp_region ?_
    refine sq_plain rfl rfl rfl (w_assign rfl (ev_cs' (l := []) rfl)) ?_
    refine sq_plain rfl rfl rfl (w_assign rfl ev_cb) ?_
    refine sq_nil ?_
    refine awp_ret ?_
    exact retN rfl (by decide) (rv_cons (rv_tmp' rfl (by first | rfl | exact congrArg AV.str (by rw [ht]))) (rv_cons (rv_tmp' rfl (by first | rfl | exact congrArg AV.str (by rw [ht]))) rv_nil))
  · intro h22
    rw [seal_not2] at h22
    have ho : sealOk b = true := by simpa using h22
    have he : openR b = (b.take (b.length - 3), true) := if_pos ho
    rw [he]
    have h9 : 3 ≤ b.length := by (unfold sealOk within at ho; simp at ho; omega)
    refine awp_skip ?_
    refine awp_seq ?_
    refine awp_region ?_
    refine sq_plain rfl rfl rfl (w_move rfl (ev_tmp rfl)) ?_
    refine sq_plain rfl rfl rfl (w_move rfl (ev_tmp rfl)) ?_
    refine sq_plain rfl rfl rfl (w_ssl_hi rfl Tryz.underlying9 (ev_tmp rfl) (ev_tmp rfl) (by omega) (by omega)) ?_
    refine sq_plain rfl rfl rfl (w_assign rfl (ev_tmp rfl)) ?_
    refine sq_plain rfl rfl rfl (w_assign rfl ev_cb) ?_
    refine sq_nil ?_
    refine awp_ret ?_
    exact retN rfl (by decide) (rv_cons (rv_tmp' rfl (by first | rfl | exact congrArg AV.str (by rw [ht]))) (rv_cons (rv_tmp' rfl (by first | rfl | exact congrArg AV.str (by rw [ht]))) rv_nil))
end Go.Proofs.YtmlmmgeadombbaaGreatDoor

set_option linter.unusedVariables false
namespace Go.M
open Go.AV
def TRec.ocs (c : TRec) (x : Value × Value) : List AV := [AV.int c.Kind, AV.int c.Txn, AV.int c.Time, AV.int c.Lead, AV.is x.1, AV.is x.2, AV.bool c.Yes]
def TPlaces.ocs (c : TPlaces) (x : Value × Value) : List AV := [AV.int c.Ver, AV.is x.1, AV.is x.2]
def TMove.ocs (c : TMove) (x : Value × Value) : List AV := [AV.str c.Low, AV.str c.High, AV.int c.Phase, AV.is x.1, AV.is x.2, AV.str c.Last, AV.bool c.Over]
end Go.M

set_option linter.unusedVariables false
set_option linter.unusedSimpArgs false
set_option maxRecDepth 100000
namespace Go.Proofs.YtmlmmgeadombbaaGreatDoor
open Go Go.AV Go.M
attribute [local irreducible] OpW OpA OpS AWP FSpec ESpec GSpec OpE RetOk RetOkG RvDen Le Ev GuardIs
def TRec.ow (c : TRec) (x : Value × Value) : List Own := [.arr x.1 9 1 (c.Reads.map (fun x => [AV.str x])), .arr x.2 79 3 (c.Writes.map TWrite.cs)]
theorem TRec.lc (c : TRec) (x : Value × Value) : LendC (TRec.ow c x) (TRec.ocs c x) c.cs := (lc_cons lt_refl (lc_cons lt_refl (lc_cons lt_refl (lc_cons lt_refl (lc_cons (lt_arr (List.mem_of_getElem? (i := 0) rfl) le_refl_e) (lc_cons (lt_arr (List.mem_of_getElem? (i := 1) rfl) le_refl_e) (lc_cons lt_refl lc_nil)))))))
def TPlaces.ow (c : TPlaces) (x : Value × Value) : List Own := [.arr x.1 9 1 (c.Cuts.map (fun x => [AV.str x])), .arr x.2 3 1 (c.Groups.map (fun x => [AV.int x]))]
theorem TPlaces.lc (c : TPlaces) (x : Value × Value) : LendC (TPlaces.ow c x) (TPlaces.ocs c x) c.cs := (lc_cons lt_refl (lc_cons (lt_arr (List.mem_of_getElem? (i := 0) rfl) le_refl_e) (lc_cons (lt_arr (List.mem_of_getElem? (i := 1) rfl) le_refl_e) lc_nil)))
def TMove.ow (c : TMove) (x : Value × Value) : List Own := [.arr x.1 79 3 (c.From.map TWrite.cs), .arr x.2 79 3 (c.To.map TWrite.cs)]
theorem TMove.lc (c : TMove) (x : Value × Value) : LendC (TMove.ow c x) (TMove.ocs c x) c.cs := (lc_cons lt_refl (lc_cons lt_refl (lc_cons lt_refl (lc_cons (lt_arr (List.mem_of_getElem? (i := 0) rfl) le_refl_e) (lc_cons (lt_arr (List.mem_of_getElem? (i := 1) rfl) le_refl_e) (lc_cons lt_refl (lc_cons lt_refl lc_nil)))))))
end Go.Proofs.YtmlmmgeadombbaaGreatDoor
