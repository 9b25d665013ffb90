/- Walks: numbers and texts as bytes, and their reading. -/
import Derived.Test.YteliahajeokciaaBytesM
import Derived.Test.YteliahajeokciaaAvB
import Derived.Test.YteliahajeokciaaTypesW
import Derived.Test.YteliahajeokciaaBaseW
set_option linter.unusedVariables false
set_option linter.unusedSimpArgs false
set_option maxRecDepth 100000
namespace Go.M
open Go.AV
theorem wrap_u8 (m : Nat) : IntKind.u8.wrap (m : Int) = ((UInt8.ofNat m).toNat : Int) := by
  rw [UInt8.toNat_ofNat']
  unfold IntKind.wrap
  simp [IntKind.bits, IntKind.signed]
theorem tmod_nat (m k : Nat) : ((m : Int).tmod (k : Int)) = ((m % k : Nat) : Int) := (Int.ofNat_tmod m k).symm
theorem tdiv_nat (m k : Nat) : ((m : Int).tdiv (k : Int)) = ((m / k : Nat) : Int) := (Int.ofNat_tdiv m k).symm
theorem wrap_nat {m : Nat} (h : m ≤ 9223372036854775807) : IntKind.i64.wrap (m : Int) = (m : Int) := in64 (by omega)
theorem byte_hi (m : Nat) : IntKind.u8.wrap (IntKind.u8.wrap ((m : Int).tmod 128) + 128) = ((UInt8.ofNat (m % 128 + 128)).toNat : Int) := by
  have h1 := tmod_nat m 128
  rw [show ((128 : Nat) : Int) = 128 from rfl] at h1
  rw [h1, wrap_u8, u8_nat (by omega)]
  have := wrap_u8 (m % 128 + 128)
  rw [← this]; simp
theorem byte_hi2 (m : Nat) : IntKind.u8.wrap ((m : Int).tmod 128 + 128) = ((UInt8.ofNat (m % 128 + 128)).toNat : Int) := by
  have h1 := tmod_nat m 128
  rw [show ((128 : Nat) : Int) = 128 from rfl] at h1
  rw [h1]
  have := wrap_u8 (m % 128 + 128)
  rw [← this]; simp
theorem quo_nat {m : Nat} (h : m ≤ 9223372036854775807) : IntKind.i64.wrap ((m : Int).tdiv 128) = ((m / 128 : Nat) : Int) := by
  have h1 := tdiv_nat m 128
  rw [show ((128 : Nat) : Int) = 128 from rfl] at h1
  rw [h1, wrap_nat (by omega)]
theorem numB_len9 {n : Nat} (h : n ≤ 4611686018427387904) : (numB n).length ≤ 9 := numB_len (k := 9) (by omega) (by decide)
end Go.M
namespace Go.Proofs.Yteliahajeokciaa
open Go Go.AV Go.M
attribute [local irreducible] OpW OpA OpS AWP FSpec ESpec GSpec OpE RetOk RetOkG RvDen Le Ev GuardIs SrcIs Int.tmod Int.tdiv IntKind.wrap
theorem numBytes_spec (n : Nat) (h : n ≤ 4611686018427387904) : FSpec Try.prog 109 [AV.int n] (AV.str (numB n)) := by
  have hlen := numB_len9 h
  refine spec_of_awp Try.func109 rfl Try.ntmps109 rfl ?_
  refine awp_seq ?_
  refine awp_region ?_
  refine sq_plain rfl rfl rfl (w_assign rfl (ev_cs' (l := []) rfl)) ?_
  refine sq_nil ?_
  refine awp_seq ?_
  refine awp_region ?_
  refine sq_emptyarr rfl rfl rfl rfl Try.underlying22 Try.sizeOf5 ?_
  intro v4
  refine sq_plain rfl rfl rfl (w_assign rfl (ev_tmp rfl)) ?_
  refine sq_nil ?_
  refine awp_seq ?_
  refine awp_block ?_
  refine AWP.le (le_pick [0] rfl) ?_
  refine awp_loop_i3 [(2, _)] _ (fun (m : Nat) (bs : Str) (v : Value) => bs ++ numB m = numB n ∧ m ≤ n) (fun (m : Nat) (bs : Str) (v : Value) => [.arr v 5 1 (bs.map byteC)]) (fun (m : Nat) (bs : Str) (v : Value) => [(0, AV.int m), (3, AV.is v)]) (fun (m : Nat) (bs : Str) (v : Value) => m) (n) ([]) (v4) ?_ (le_eq (by rfl) ⟨rfl, rfl, rfl, trivial⟩) ?_
  · exact ⟨rfl, Nat.le_refl _⟩
  intro m bs v hinv
  have hbl : bs.length ≤ 9 := by (have h9 := congrArg List.length hinv.1; rw [List.length_append] at h9; omega)
  refine awp_seq ?_
  refine awp_seq ?_
  refine awp_region ?_
  refine sq_plain rfl rfl rfl (w_move rfl (ev_tmp rfl)) ?_
  refine sq_plain rfl rfl rfl (w_geq rfl (ev_tmp rfl) ev_ci) ?_
  refine sq_nil ?_
  refine awp_cond (ev_tmp rfl) ?_ ?_
  · intro h6
    have k6 := of_decide_eq_true h6; try simp only [List.length_map] at k6
    have hm : 128 ≤ m := by omega
    have hq := quo_nat (m := m) (by omega)
    have hbyte : [[AV.ik .u8 (IntKind.u8.wrap (IntKind.u8.wrap ((m : Int).tmod 128) + 128))]] = [UInt8.ofNat (m % 128 + 128)].map byteC := by rw [byte_hi]; rfl
    refine awp_skip ?_
    refine awp_block ?_
    refine awp_seq ?_
    refine awp_region ?_
    refine sq_plain rfl rfl rfl (w_move rfl (ev_tmp rfl)) ?_
    refine sq_plain rfl rfl rfl (w_move rfl (ev_tmp rfl)) ?_
    refine sq_plain rfl rfl rfl (w_rem rfl (ev_tmp rfl) ev_ci (by decide)) ?_
    refine sq_plain rfl rfl rfl (w_conv rfl (by kernel_rfl) Try.underlying5 (ev_tmp rfl)) ?_
    refine sq_plain rfl rfl rfl (w_add rfl (ev_tmp rfl) ev_ci) ?_
    refine sq_plain rfl rfl rfl (w_bslice rfl Try.underlying22 Try.sizeOf5 Try.zeroValue5 rfl rfl rfl rfl (bp_cons (ev_tmp rfl) (as_ik _ _) bp_nil) rfl rfl) ?_
    refine sq_append (by' := 1) 0 rfl rfl rfl rfl Try.underlying22 Try.type5 rfl rfl rfl rfl rfl rfl (ev_tmp rfl) (ev_tmp rfl) rfl (by first | omega | ((try simp only [List.length_map, List.length_take, List.length_cons, List.length_nil, chunks_len, szR] at *); omega) | (have hc2 := hc; simp only [Bool.and_eq_true, Bool.or_eq_true, Bool.or_eq_false_iff, Bool.and_eq_false_iff, Bool.not_eq_true', Bool.not_eq_false', decide_eq_true_eq, decide_eq_false_iff_not, beq_iff_eq, bne_iff_ne, List.length_map, List.length_take] at hc2; omega)) ?_
    intro v13_1
    refine sq_plain rfl rfl rfl (w_assign rfl (ev_tmp rfl)) ?_
    refine sq_nil ?_
    refine awp_region ?_
    refine sq_plain rfl rfl rfl (w_move rfl (ev_tmp rfl)) ?_
    refine sq_plain rfl rfl rfl (w_quo rfl (ev_tmp rfl) ev_ci (by decide)) ?_
    refine sq_plain rfl rfl rfl (w_assign rfl (ev_tmp rfl)) ?_
    refine sq_nil ?_
    refine blockN ?_
    refine round_end3 m bs v (m / 128) (bs ++ [UInt8.ofNat (m % 128 + 128)]) (v13_1) ?_ ?_ (le_eq (by rw [List.map_append, ← hbyte]; rfl) ⟨congrArg (fun z => some (AV.int z)) hq, rfl, rfl, trivial⟩)
    · exact ⟨by rw [List.append_assoc, ← hinv.1, numB_big hm]; rfl, by omega⟩
    · omega
  · intro h6
    have k6 := of_decide_eq_false h6; try simp only [List.length_map] at k6
    have hlast : [[AV.ik .u8 (IntKind.u8.wrap (m : Int))]] = [UInt8.ofNat m].map byteC := by rw [wrap_u8]; rfl
    refine awp_exit ?_
    refine awp_seq ?_
    refine awp_region ?_
    refine sq_plain rfl rfl rfl (w_move rfl (ev_tmp rfl)) ?_
    refine sq_plain rfl rfl rfl (w_move rfl (ev_tmp rfl)) ?_
    refine sq_plain rfl rfl rfl (w_conv rfl (by kernel_rfl) Try.underlying5 (ev_tmp rfl)) ?_
    refine sq_plain rfl rfl rfl (w_bslice rfl Try.underlying22 Try.sizeOf5 Try.zeroValue5 rfl rfl rfl rfl (bp_cons (ev_tmp rfl) (as_ik _ _) bp_nil) rfl rfl) ?_
    refine sq_append (by' := 1) 0 rfl rfl rfl rfl Try.underlying22 Try.type5 rfl rfl rfl rfl rfl rfl (ev_tmp rfl) (ev_tmp rfl) rfl (by first | omega | ((try simp only [List.length_map, List.length_take, List.length_cons, List.length_nil, chunks_len, szR] at *); omega) | (have hc2 := hc; simp only [Bool.and_eq_true, Bool.or_eq_true, Bool.or_eq_false_iff, Bool.and_eq_false_iff, Bool.not_eq_true', Bool.not_eq_false', decide_eq_true_eq, decide_eq_false_iff_not, beq_iff_eq, bne_iff_ne, List.length_map, List.length_take] at hc2; omega)) ?_
    intro v20_2
    refine sq_plain rfl rfl rfl (w_convBo (bs := (bs ++ [UInt8.ofNat m])) 0 (by rw [List.map_append, ← hlast]; rfl) rfl Try.underlying22 Try.underlying5 Try.underlying9 (ev_tmp rfl)) ?_
    refine sq_plain rfl rfl rfl (w_assign rfl (ev_tmp rfl)) ?_
    refine sq_nil ?_
    refine awp_ret ?_
    exact retR rfl (rv_tmp' rfl (by (refine congrArg AV.str ?_; rw [← hinv.1, numB_small (by omega)])))
theorem numBytesI_spec (n : Int) (h0 : 0 ≤ n) (h : n ≤ 4611686018427387904) : FSpec Try.prog 109 [AV.int n] (AV.str (numB n.toNat)) := by
  have := numBytes_spec n.toNat (by omega)
  rwa [show ((n.toNat : Nat) : Int) = n by omega] at this
theorem numBSn_spec (n : Nat) (h : n ≤ 4611686018427387904) : FSpec Try.prog 111 [AV.int n] (AV.str (numB n)) := by
  have hlen := numB_len9 h
  refine spec_of_awp Try.func111 rfl Try.ntmps111 rfl ?_
  refine awp_seq ?_
  refine awp_region ?_
  refine sq_plain rfl rfl rfl (w_assign rfl (ev_cs' (l := []) rfl)) ?_
  refine sq_nil ?_
  refine awp_seq ?_
  refine awp_region ?_
  refine sq_nilarr 5 1 rfl rfl rfl rfl ev_cnils ?_
  intro v3
  refine sq_nil ?_
  refine awp_seq ?_
  refine awp_block ?_
  refine AWP.le (le_pick [0] rfl) ?_
  refine awp_loop_i3 [(2, _)] _ (fun (m : Nat) (bs : Str) (v : Value) => bs ++ numB m = numB n ∧ m ≤ n) (fun (m : Nat) (bs : Str) (v : Value) => [.arr v 5 1 (bs.map byteC)]) (fun (m : Nat) (bs : Str) (v : Value) => [(0, AV.int m), (3, AV.is v)]) (fun (m : Nat) (bs : Str) (v : Value) => m) (n) ([]) (v3) ?_ (le_eq (by rfl) ⟨rfl, rfl, rfl, trivial⟩) ?_
  · exact ⟨rfl, Nat.le_refl _⟩
  intro m bs v hinv
  have hbl : bs.length ≤ 9 := by (have h9 := congrArg List.length hinv.1; rw [List.length_append] at h9; omega)
  refine awp_seq ?_
  refine awp_seq ?_
  refine awp_region ?_
  refine sq_plain rfl rfl rfl (w_move rfl (ev_tmp rfl)) ?_
  refine sq_plain rfl rfl rfl (w_geq rfl (ev_tmp rfl) ev_ci) ?_
  refine sq_nil ?_
  refine awp_cond (ev_tmp rfl) ?_ ?_
  · intro h5
    have k5 := of_decide_eq_true h5; try simp only [List.length_map] at k5
    have hm : 128 ≤ m := by omega
    have hq := quo_nat (m := m) (by omega)
    have htm := tmod_nat m 128
    have hbyte : [[AV.ik .u8 (IntKind.u8.wrap ((m : Int).tmod 128 + 128))]] = [UInt8.ofNat (m % 128 + 128)].map byteC := by rw [byte_hi2]; rfl
    refine awp_skip ?_
    refine awp_seq ?_
    refine awp_block ?_
    refine awp_region ?_
    refine sq_plain rfl rfl rfl (w_move rfl (ev_tmp rfl)) ?_
    refine sq_plain rfl rfl rfl (w_move rfl (ev_tmp rfl)) ?_
    refine sq_plain rfl rfl rfl (w_rem rfl (ev_tmp rfl) ev_ci (by decide)) ?_
    refine sq_plain rfl rfl rfl (w_addi rfl (ev_tmp rfl) ev_ci (by rw [show (128 : Int) = ((128 : Nat) : Int) from rfl, htm]; omega)) ?_
    refine sq_plain rfl rfl rfl (w_conv rfl (by kernel_rfl) Try.underlying5 (ev_tmp rfl)) ?_
    refine sq_plain rfl rfl rfl (w_bslice rfl Try.underlying22 Try.sizeOf5 Try.zeroValue5 rfl rfl rfl rfl (bp_cons (ev_tmp rfl) (as_ik _ _) bp_nil) rfl rfl) ?_
    refine sq_append (by' := 1) 0 rfl rfl rfl rfl Try.underlying22 Try.type5 rfl rfl rfl rfl rfl rfl (ev_tmp rfl) (ev_tmp rfl) rfl (by first | omega | ((try simp only [List.length_map, List.length_take, List.length_cons, List.length_nil, chunks_len, szR] at *); omega) | (have hc2 := hc; simp only [Bool.and_eq_true, Bool.or_eq_true, Bool.or_eq_false_iff, Bool.and_eq_false_iff, Bool.not_eq_true', Bool.not_eq_false', decide_eq_true_eq, decide_eq_false_iff_not, beq_iff_eq, bne_iff_ne, List.length_map, List.length_take] at hc2; omega)) ?_
    intro v14_1
    refine sq_plain rfl rfl rfl (w_assign rfl (ev_tmp rfl)) ?_
    refine sq_nil ?_
    refine awp_region ?_
    refine sq_plain rfl rfl rfl (w_move rfl (ev_tmp rfl)) ?_
    refine sq_plain rfl rfl rfl (w_quo rfl (ev_tmp rfl) ev_ci (by decide)) ?_
    refine sq_plain rfl rfl rfl (w_assign rfl (ev_tmp rfl)) ?_
    refine sq_nil ?_
    refine round_end3 m bs v (m / 128) (bs ++ [UInt8.ofNat (m % 128 + 128)]) (v14_1) ?_ ?_ (le_eq (by rw [List.map_append, ← hbyte]; rfl) ⟨congrArg (fun z => some (AV.int z)) hq, rfl, rfl, trivial⟩)
    · exact ⟨by rw [List.append_assoc, ← hinv.1, numB_big hm]; rfl, by omega⟩
    · omega
  · intro h5
    have k5 := of_decide_eq_false h5; try simp only [List.length_map] at k5
    have hlast : [[AV.ik .u8 (IntKind.u8.wrap (m : Int))]] = [UInt8.ofNat m].map byteC := by rw [wrap_u8]; rfl
    refine awp_exit ?_
    refine awp_seq ?_
    refine awp_region ?_
    refine sq_plain rfl rfl rfl (w_move rfl (ev_tmp rfl)) ?_
    refine sq_plain rfl rfl rfl (w_move rfl (ev_tmp rfl)) ?_
    refine sq_plain rfl rfl rfl (w_conv rfl (by kernel_rfl) Try.underlying5 (ev_tmp rfl)) ?_
    refine sq_plain rfl rfl rfl (w_bslice rfl Try.underlying22 Try.sizeOf5 Try.zeroValue5 rfl rfl rfl rfl (bp_cons (ev_tmp rfl) (as_ik _ _) bp_nil) rfl rfl) ?_
    refine sq_append (by' := 1) 0 rfl rfl rfl rfl Try.underlying22 Try.type5 rfl rfl rfl rfl rfl rfl (ev_tmp rfl) (ev_tmp rfl) rfl (by first | omega | ((try simp only [List.length_map, List.length_take, List.length_cons, List.length_nil, chunks_len, szR] at *); omega) | (have hc2 := hc; simp only [Bool.and_eq_true, Bool.or_eq_true, Bool.or_eq_false_iff, Bool.and_eq_false_iff, Bool.not_eq_true', Bool.not_eq_false', decide_eq_true_eq, decide_eq_false_iff_not, beq_iff_eq, bne_iff_ne, List.length_map, List.length_take] at hc2; omega)) ?_
    intro v19_2
    refine sq_plain rfl rfl rfl (w_convBo (bs := (bs ++ [UInt8.ofNat m])) 0 (by rw [List.map_append, ← hlast]; rfl) rfl Try.underlying22 Try.underlying5 Try.underlying9 (ev_tmp rfl)) ?_
    refine sq_plain rfl rfl rfl (w_assign rfl (ev_tmp rfl)) ?_
    refine sq_nil ?_
    refine awp_ret ?_
    exact retR rfl (rv_tmp' rfl (by (refine congrArg AV.str ?_; rw [← hinv.1, numB_small (by omega)])))
theorem numBS_spec (n : Int) (h0 : 0 ≤ n) (h : n ≤ 4611686018427387904) : FSpec Try.prog 111 [AV.int n] (AV.str (numB n.toNat)) := by
  have := numBSn_spec n.toNat (by omega)
  rwa [show ((n.toNat : Nat) : Int) = n by omega] at this
end Go.Proofs.Yteliahajeokciaa
